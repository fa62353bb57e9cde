import Derived.Test.YtgoifbjgmgbihaaGreatT07
import Derived.Test.YtgoifbjgmgbihaaGreatT05
import Derived.Test.YtgoifbjgmgbihaaGreatVid
import Derived.Test.YtgoifbjgmgbihaaGreatT06
import Derived.Test.YtgoifbjgmgbihaaGreatT02
set_option linter.unusedSimpArgs false
set_option linter.unusedVariables false
set_option maxRecDepth 20000
set_option maxHeartbeats 16000000
namespace Go.Proofs.YtgoifbjgmgbihaaGreat
open Go.Vi
def w3 (n:Txt) (m:Man) (d:Dsk):Dsk × Int:=cO n (bT m (d,0))
def w2 (n:Txt) (m:Man) (d:Dsk):Dsk × Int:=if(aj d (ct d.files n)).2≠0 then aj d (ct d.files n) else w3 n m (aj d (ct d.files n)).1
def w1 (n x:Txt) (m:Man) (d:Dsk):Dsk × Int:=if(cO n (fO n x (d,0))).2≠0 then cO n (fO n x (d,0)) else w2 n m (cO n (fO n x (d,0))).1
def w0 (n x:Txt) (m:Man) (d:Dsk):Dsk × Int:=if(aj d (bm d.files n)).2≠0 then aj d (bm d.files n) else w1 n x m (aj d (bm d.files n)).1
def wT (n x:Txt) (m:Man):Nat->Dsk->Dsk × Int
 | 0,d=>w0 n x m d
 | 1,d=>w1 n x m d
 | 2,d=>w2 n m d
 | 3,d=>w3 n m d
 | _,d=>(d,0)
theorem MY (d:Dsk) (n x:Txt) (m:Man):nQ d n x m=w0 n x m d:=by
 have e1:bL n (d,0)=aj d (bm d.files n):=bv _ _;unfold nQ w0;simp only[e1];generalize aj d (bm d.files n)=a;obtain⟨a1,a2⟩:=a;simp only[];by_cases c1:a2=0
 ·subst c1;simp only[if_true,ne_eq,not_true,if_false];unfold w1;generalize cO n (fO n x (a1,0))=b;obtain⟨b1,b2⟩:=b;simp only;by_cases c2:b2=0
  ·subst c2;have e2:ga n (b1,0)=aj b1 (ct b1.files n):=bv _ _;unfold w2 w3;rw[e2];generalize aj b1 (ct b1.files n)=c;obtain⟨c1',c2'⟩:=c;simp only[ne_eq,not_true,if_false];by_cases c3:c2'=0
   ·subst c3;simp
   ·simp[c3]
  ·have e2:ga n (b1,b2)=(b1,b2):=gC c2 _;simp[e2,c2]
 ·have e2:ga n (a1,a2)=(a1,a2):=gC c1 _;simp[e2,c1]
theorem Ba {k u:Nat} (d:Dsk) (hd:okN k u d) (hk:k<=700000) (hu:u<=700000000000) (n x:Txt) (hx:x.length<=100000) (X:Sto) (hl:X.segs.length<=1000000) (hm:X.man.ok) :
  call 109 [.agg d.l,.one (.sp 0 4)] [.cells [.f 110 [1],.f 152 [2,4],.f 114 [1],.f 152 [5,7]],.cells [zS n],.cells [.f 113 [1,3]],.cells [zS x],.cells [zS n],.cells [.f 115 [6]],.cells [.d (.l (X.disk.files.map Fil.enc)),zI X.disk.cap,zB X.disk.armed,zI X.disk.left,zB X.disk.down,zI X.ver,.cl (X.segs.map Seg.enc),zI X.next,zI X.sure,zI X.size,zW X.sum],.cells [zS n]]=some (aP (w0 n x X.man d),[.cells [.f 110 [1],.f 152 [2,4],.f 114 [1],.f 152 [5,7]],.cells [zS n],.cells [.f 113 [1,3]],.cells [zS x],.cells [zS n],.cells [.f 115 [6]],.cells [.d (.l (X.disk.files.map Fil.enc)),zI X.disk.cap,zB X.disk.armed,zI X.disk.left,zB X.disk.down,zI X.ver,.cl (X.segs.map Seg.enc),zI X.next,zI X.sure,zI X.size,zW X.sum],.cells [zS n]]):=by
 obtain⟨Z,hZ⟩:∃ Z,Z=wT n x X.man 0 d:=⟨_,rfl⟩;have hZ0:w0 n x X.man d=Z:=hZ.symm;rw[hZ0];clear hZ0;obtain⟨⟨zfl,zcp,zar,zlf,zdn⟩,ze⟩:=Z;simp only[aP,Dsk.l];apply ae PE rfl;obtain⟨dfl,dcp,dar,dlf,ddn⟩:=d;refine bC ?_ Gp.eq_1;refine ax (m:=8) (σ:=Nat × Dsk) (fun t=>4-t.1) (fun t=>t.1<=4∧okN (k+2*t.1) (u+100800*t.1) t.2∧wT n x X.man t.1 t.2=(⟨zfl,zcp,zar,zlf,zdn⟩,ze)) (fun t=>[V.one (.p 8 0),V.one (.p 9 0),V.one (.sp 0 4),vi 4,vi t.1])
  (fun t=>[.cells [.f 110 [1],.f 152 [2,4],.f 114 [1],.f 152 [5,7]],.cells [zS n],.cells [.f 113 [1,3]],.cells [zS x],.cells [zS n],.cells [.f 115 [6]],.cells [.d (.l (X.disk.files.map Fil.enc)),zI X.disk.cap,zB X.disk.armed,zI X.disk.left,zB X.disk.down,zI X.ver,.cl (X.segs.map Seg.enc),zI X.next,zI X.sure,zI X.size,zW X.sum],.cells [zS n],.cells [.d (.l (t.2.files.map Fil.enc)),zI t.2.cap,zB t.2.armed,zI t.2.left,zB t.2.down],.cells [.ns,zI 0,zB false,zI 0,zB false]])
  (fun _=>(V.tup [(true,[.d (.l (zfl.map Fil.enc)),zI zcp,zB zar,zI zlf,zB zdn]),(false,[zI ze])],([.cells [.f 110 [1],.f 152 [2,4],.f 114 [1],.f 152 [5,7]],.cells [zS n],.cells [.f 113 [1,3]],.cells [zS x],.cells [zS n],.cells [.f 115 [6]],.cells [.d (.l (X.disk.files.map Fil.enc)),zI X.disk.cap,zB X.disk.armed,zI X.disk.left,zB X.disk.down,zI X.ver,.cl (X.segs.map Seg.enc),zI X.next,zI X.sure,zI X.size,zW X.sum],.cells [zS n]]:Hp))) ?_ (0,⟨dfl,dcp,dar,dlf,ddn⟩) ⟨zP _,hd,hZ.symm⟩ _ _ ?_
 rotate_left
 ·exact bO
 rintro⟨i,⟨fl,cp,ar,lf,dn⟩⟩ ⟨h1,h2,h3⟩ R hR;simp only at h1 h2 h3 ⊢;have hok:=h2.ok (by omega) (by omega)
 rcases(by omega:i=0∨i=1∨i=2∨i=3∨i=4) with rfl|rfl|rfl|rfl|rfl
 ·have q1:=F6 ⟨fl,cp,ar,lf,dn⟩ hok n;have kk:=eA (s:=(⟨fl,cp,ar,lf,dn⟩,0)) h2 n;rw[show bL n (⟨fl,cp,ar,lf,dn⟩,0)=aj ⟨fl,cp,ar,lf,dn⟩ (bm fl n) from bv _ _] at kk
  simp only[wT,w0] at h3;simp only at q1;generalize aj ⟨fl,cp,ar,lf,dn⟩ (bm fl n)=q at *;have kq:=kk.up (k':=k+2*(0+1)) (u':=u+100800*(0+1)) (by omega) (by omega)
  obtain⟨⟨qfl,qcp,qar,qlf,qdn⟩,qe⟩:=q;simp only[aP,Dsk.l] at q1 h3;have g1:∀ b0 b2 b3 b4 b5 b6 b7 b8 b9:Box,ak call 110 [.agg [.d (.l (fl.map Fil.enc)),zI cp,zB ar,zI lf,zB dn],.one (.p 1 0)] [b0,.cells [zS n],b2,b3,b4,b5,b6,b7,b8,b9]=some (V.tup [(true,[.d (.l (qfl.map Fil.enc)),zI qcp,zB qar,zI qlf,zB qdn]),(false,[zI qe])],[b0,.cells [zS n],b2,b3,b4,b5,b6,b7,b8,b9]):=fun b0 b2 b3 b4 b5 b6 b7 b8 b9=>aD (ids:=[1]) rfl rfl rfl q1 rfl
  by_cases c2:qe=0
  ·subst c2;rw[if_neg (by simp)] at h3
   have hR':=hR (0+1,⟨qfl,qcp,qar,qlf,qdn⟩) (by simp only[];omega) ⟨by simp only[];omega,kq,h3⟩
   refine dm ?_ gM.eq_1 g1;exact hR' _ _ bO
  ·rw[if_pos c2] at h3;cases h3;refine dm ?_ gM.eq_1 g1 c2;try simp[zR,c2]
 ·have q1:=DF ⟨fl,cp,ar,lf,dn⟩ h2 (by omega) (by omega) n x (by omega)
  have kk:=lx (iY (s:=(⟨fl,cp,ar,lf,dn⟩,0)) h2 n x) n;simp only[wT,w1] at h3;generalize cO n (fO n x (⟨fl,cp,ar,lf,dn⟩,0))=q at *;have kq:=kk.up (k':=k+2*(1+1)) (u':=u+100800*(1+1)) (by omega) (by omega)
  obtain⟨⟨qfl,qcp,qar,qlf,qdn⟩,qe⟩:=q;simp only[aP,Dsk.l] at q1 h3;have g1:∀ b0 b5 b6 b7 b8 b9:Box,ak call 152 [.agg [.d (.l (fl.map Fil.enc)),zI cp,zB ar,zI lf,zB dn],.one (.p 2 0),.one (.p 4 0)] [b0,.cells [zS n],.cells [.f 113 [1,3]],.cells [zS x],.cells [zS n],b5,b6,b7,b8,b9]=some (V.tup [(true,[.d (.l (qfl.map Fil.enc)),zI qcp,zB qar,zI qlf,zB qdn]),(false,[zI qe])],[b0,.cells [zS n],.cells [.f 113 [1,3]],.cells [zS x],.cells [zS n],b5,b6,b7,b8,b9]):=fun b0 b5 b6 b7 b8 b9=>aD (ids:=[2,1,3,4]) rfl rfl rfl q1 rfl
  by_cases c2:qe=0
  ·subst c2;rw[if_neg (by simp)] at h3
   have hR':=hR (1+1,⟨qfl,qcp,qar,qlf,qdn⟩) (by simp only[];omega) ⟨by simp only[];omega,kq,h3⟩
   refine dm ?_ gM.eq_1 g1;exact hR' _ _ bO
  ·rw[if_pos c2] at h3;cases h3;refine dm ?_ gM.eq_1 g1 c2;try simp[zR,c2]
 ·have q1:=Ir ⟨fl,cp,ar,lf,dn⟩ hok n;have kk:=lu (s:=(⟨fl,cp,ar,lf,dn⟩,0)) h2 n;rw[show ga n (⟨fl,cp,ar,lf,dn⟩,0)=aj ⟨fl,cp,ar,lf,dn⟩ (ct fl n) from bv _ _] at kk
  simp only[wT,w2] at h3;simp only at q1;generalize aj ⟨fl,cp,ar,lf,dn⟩ (ct fl n)=q at *;have kq:=kk.up (k':=k+2*(2+1)) (u':=u+100800*(2+1)) (by omega) (by omega)
  obtain⟨⟨qfl,qcp,qar,qlf,qdn⟩,qe⟩:=q;simp only[aP,Dsk.l] at q1 h3;have g1:∀ b0 b2 b3 b4 b5 b6 b7 b8 b9:Box,ak call 114 [.agg [.d (.l (fl.map Fil.enc)),zI cp,zB ar,zI lf,zB dn],.one (.p 1 0)] [b0,.cells [zS n],b2,b3,b4,b5,b6,b7,b8,b9]=some (V.tup [(true,[.d (.l (qfl.map Fil.enc)),zI qcp,zB qar,zI qlf,zB qdn]),(false,[zI qe])],[b0,.cells [zS n],b2,b3,b4,b5,b6,b7,b8,b9]):=fun b0 b2 b3 b4 b5 b6 b7 b8 b9=>aD (ids:=[1]) rfl rfl rfl q1 rfl
  by_cases c2:qe=0
  ·subst c2;rw[if_neg (by simp)] at h3
   have hR':=hR (2+1,⟨qfl,qcp,qar,qlf,qdn⟩) (by simp only[];omega) ⟨by simp only[];omega,kq,h3⟩
   refine dm ?_ gM.eq_1 g1;exact hR' _ _ bO
  ·rw[if_pos c2] at h3;cases h3;refine dm ?_ gM.eq_1 g1 c2;try simp[zR,c2]
 ·have q1:=Eg ⟨fl,cp,ar,lf,dn⟩ h2 (by omega) (by omega) n X hl hm
  have kk:=lx (ii (s:=(⟨fl,cp,ar,lf,dn⟩,0)) h2 X.man) n;simp only[wT,w3] at h3;generalize cO n (bT X.man (⟨fl,cp,ar,lf,dn⟩,0))=q at *;have kq:=kk.up (k':=k+2*(3+1)) (u':=u+100800*(3+1)) (by omega) (by omega)
  obtain⟨⟨qfl,qcp,qar,qlf,qdn⟩,qe⟩:=q;simp only[aP,Dsk.l] at q1 h3;have g1:∀ b0 b1 b2 b3 b4 b8 b9:Box,ak call 152 [.agg [.d (.l (fl.map Fil.enc)),zI cp,zB ar,zI lf,zB dn],.one (.p 5 0),.one (.p 7 0)] [b0,b1,b2,b3,b4,.cells [.f 115 [6]],.cells [.d (.l (X.disk.files.map Fil.enc)),zI X.disk.cap,zB X.disk.armed,zI X.disk.left,zB X.disk.down,zI X.ver,.cl (X.segs.map Seg.enc),zI X.next,zI X.sure,zI X.size,zW X.sum],.cells [zS n],b8,b9]=some (V.tup [(true,[.d (.l (qfl.map Fil.enc)),zI qcp,zB qar,zI qlf,zB qdn]),(false,[zI qe])],[b0,b1,b2,b3,b4,.cells [.f 115 [6]],.cells [.d (.l (X.disk.files.map Fil.enc)),zI X.disk.cap,zB X.disk.armed,zI X.disk.left,zB X.disk.down,zI X.ver,.cl (X.segs.map Seg.enc),zI X.next,zI X.sure,zI X.size,zW X.sum],.cells [zS n],b8,b9]):=fun b0 b1 b2 b3 b4 b8 b9=>aD (ids:=[5,6,7]) rfl rfl rfl q1 rfl
  by_cases c2:qe=0
  ·subst c2;have hR':=hR (3+1,⟨qfl,qcp,qar,qlf,qdn⟩) (by simp only[];omega) ⟨by simp only[];omega,kq,h3⟩
   refine dm ?_ gM.eq_1 g1;exact hR' _ _ bO
  ·cases h3;refine dm ?_ gM.eq_1 g1 c2;try simp[zR,c2]
 ·simp only[wT] at h3;cases h3;refine dm ?_ gM.eq_1 Gp.eq_1;try simp[zR]
def zy (n:Txt):List D:=[.fn 154 [[.s n]]]
theorem E8 {k u:Nat} (d:Dsk) (hd:okN k u d) (hk:k<=900000) (hu:u<=900000000000) (l:List Txt) (hl:l.length<=1000):call 109 [.agg d.l,vl (l.map zy)] []=some (aP (uq l (d,0)),[]):=by
 obtain⟨Z,hZ⟩:∃ Z,Z=uq l (d,0):=⟨_,rfl⟩;rw[<- hZ];obtain⟨⟨zfl,zcp,zar,zlf,zdn⟩,ze⟩:=Z;simp only[aP,Dsk.l];apply ae PE rfl;obtain⟨dfl,dcp,dar,dlf,ddn⟩:=d;refine bC ?_ Gp.eq_1;refine ax (m:=0) (σ:=Nat × Dsk) (fun t=>l.length-t.1) (fun t=>t.1<=l.length∧okN k u t.2∧uq (l.drop t.1) (t.2,0)=(⟨zfl,zcp,zar,zlf,zdn⟩,ze)) (fun t=>[V.one (.p 0 0),V.one (.p 1 0),vl (l.map zy),vi l.length,vi t.1])
  (fun t=>[.cells [.d (.l (t.2.files.map Fil.enc)),zI t.2.cap,zB t.2.armed,zI t.2.left,zB t.2.down],.cells [.ns,zI 0,zB false,zI 0,zB false]])
  (fun _=>(V.tup [(true,[.d (.l (zfl.map Fil.enc)),zI zcp,zB zar,zI zlf,zB zdn]),(false,[zI ze])],[])) ?_ (0,⟨dfl,dcp,dar,dlf,ddn⟩) ⟨zP _,hd,hZ.symm⟩ _ _ ?_
 rotate_left
 ·exact bO
 rintro⟨i,⟨fl,cp,ar,lf,dn⟩⟩ ⟨h1,h2,h3⟩ R hR;simp only at h1 h2 h3 ⊢;by_cases c:i<l.length
 ·have hc:(i:Int)<(l.length:Int):=by omega
  rw[zD c,oH] at h3;have g1:(l.map zy)[i]?=some [.fn 154 [[.s l[i]]]]:=by rw[zG,zE c];rfl
  generalize l[i]=n at *;have g2:=AP ⟨fl,cp,ar,lf,dn⟩ (h2.ok (by omega) (by omega)) n
  have kk:=dZ (s:=(⟨fl,cp,ar,lf,dn⟩,0)) h2 n;rw[show dF n (⟨fl,cp,ar,lf,dn⟩,0)=aj ⟨fl,cp,ar,lf,dn⟩ (bP fl n) from bv _ _] at kk h3
  simp only at g2 h3;generalize aj ⟨fl,cp,ar,lf,dn⟩ (bP fl n)=q at *;obtain⟨⟨qfl,qcp,qar,qlf,qdn⟩,qe⟩:=q;simp only[aP,Dsk.l] at g2 h3;have g3:∀ H:Hp,ak call 154 [.agg [.d (.l (fl.map Fil.enc)),zI cp,zB ar,zI lf,zB dn],.one (.ip [.s n])] H=some (V.tup [(true,[.d (.l (qfl.map Fil.enc)),zI qcp,zB qar,zI qlf,zB qdn]),(false,[zI qe])],H):=fun H=>callIso_pure rfl g2 rfl
  by_cases c2:qe=0
  ·subst c2;have hR':=hR (i+1,⟨qfl,qcp,qar,qlf,qdn⟩) (by simp only[];omega) ⟨by simp only[];omega,kk,h3⟩
   refine dm ?_ gM.eq_1 (zT hc) g1 g3;exact hR' _ _ bO
  ·rw[wY _ _ c2] at h3;cases h3;refine dm ?_ gM.eq_1 (zT hc) g1 g3 c2;try simp[trim,c2]
 ·have hc:¬ (i:Int)<(l.length:Int):=by omega
  rw[zC (by omega)] at h3
  cases h3;refine dm ?_ gM.eq_1 Gp.eq_1 (zF hc);try simp[trim]
theorem yn (n:Txt) (g:Nat) (c1 c2:Txt):call 112 [vs n,.one (.f g [0,1])] [.cells [zS c1],.cells [zS c2]]=some (.one (.f 152 [3,2]),[.cells [zS c1],.cells [zS c2],.cells [zS n],.cells [.f g [0,1]]]):=by
 apply ae OU rfl;refine bC ?_ MW.eq_1;try simp[zR]
theorem wg (n:Txt) (g:Nat) (X:Sto):call 112 [vs n,.one (.f g [0])] [.cells [.d (.l (X.disk.files.map Fil.enc)),zI X.disk.cap,zB X.disk.armed,zI X.disk.left,zB X.disk.down,zI X.ver,.cl (X.segs.map Seg.enc),zI X.next,zI X.sure,zI X.size,zW X.sum]]=some (.one (.f 152 [2,1]),[.cells [.d (.l (X.disk.files.map Fil.enc)),zI X.disk.cap,zB X.disk.armed,zI X.disk.left,zB X.disk.down,zI X.ver,.cl (X.segs.map Seg.enc),zI X.next,zI X.sure,zI X.size,zW X.sum],.cells [zS n],.cells [.f g [0]]]):=by
 apply ae OU rfl;refine bC ?_ MW.eq_1;try simp[zR]
theorem mF {k u:Nat} (s:Sto) (h:okS k u s) (hk:k<=500000) (hu:u<=1000000) (keep count:Int) (hb:∀ g∈s.segs,g.base<=s.floor+1000)
  (hst:∀ g∈s.segs,mq s g.base=bB s g.base):call 86 [.agg s.l,vi keep,vi count] []=some (dG (cM s keep count),[]):=by
 have q0:=Au s.segs ⟨Nat.le_trans h.len.2 (by omega),fun g hg=>by have:=h.seg g hg;omega⟩ keep count
 have q0':=tZ s.segs keep count;unfold cM;have hcell:s.l=[.d (.l (s.disk.files.map Fil.enc)),zI s.disk.cap,zB s.disk.armed,zI s.disk.left,zB s.disk.down,zI s.ver,.d (.l (s.segs.map Seg.enc)),zI s.next,zI s.sure,zI s.size,zW s.sum]:=rfl;by_cases c0:eD s.segs keep count=0
 ·rw[if_pos c0];rw[c0] at q0;apply ae SQ rfl;rw[hcell];simp only[dG,hcell];refine bC ?_ N0.eq_1 q0;try simp[trim]
 ·rw[if_neg c0];have hn:=q0' c0;generalize eD s.segs keep count=n at *;clear q0';have hba:=iz hn;have hbo:=wl h hn;have hbm:=hb _ (zN hn);have hsm:=hst _ (zN hn);rw[<- hba.2] at hbm hsm;have q1:=Dc s h (by omega) (by omega) (aW s.segs n) hbo
  rw[hsm] at q1;have hso:=yo s (aW s.segs n);have hxl:=pX hso.1 (by omega)
  have q2:=A5 (bB s (aW s.segs n)) (by omega) (by omega) (fun p hp=>(hso.1 p hp).1)
  have q3:=p9 (aZ (bB s (aW s.segs n))) (by omega)
  have q4:=lV hbo;have hsum:=pd (aZ (bB s (aW s.segs n)));have hxm:(eK s n).segs.length<=1000000:=by show(s.segs.drop n).length<=_;have:=h.len;simp;omega
  have hmo:(eK s n).man.ok:=⟨by show((s.segs.drop n).map _).length<=_;rw[zM];exact hxm,hsum⟩
  have q5:=Ba s.disk h.dsk (by omega) (by omega) (aH (aW s.segs n)) (aZ (bB s (aW s.segs n))) (by omega) (eK s n) hxm hmo
  have eX:eK s n={ s with ver:=s.ver+1,segs:=s.segs.drop n,size:=((aZ (bB s (aW s.segs n))).length:Nat),sum:=cB (aZ (bB s (aW s.segs n))) }:=rfl
  have kl:=GX h.dsk (aH (aW s.segs n)) (aZ (bB s (aW s.segs n))) (eK s n).man;unfold tv;simp only[MY] at kl ⊢;generalize w0 (aH (aW s.segs n)) (aZ (bB s (aW s.segs n))) (eK s n).man s.disk=w at *;simp only[AK];rw[eX] at q5 ⊢;have g0:(s.segs.map Seg.enc)[n]?=some s.segs[n].enc:=by rw[zG,zE hn];rfl
  generalize bB s (aW s.segs n)=st at *;generalize aZ st=X at *;rw[hba.2] at *;generalize s.segs[n]=gn at *;obtain⟨gb,gnn,gz⟩:=gn;simp only[Seg.enc] at *;generalize aH gb=N at *;apply ae SQ rfl;have hver:=h.ver;have hok:aQ 3 (s.segs.map Seg.enc)=true:=aV Seg.len s.segs;have hslen:s.segs.length<=64:=h.len.2;have hnl:n<=s.segs.length:=Nat.le_of_lt hn;have hdr:List.drop n (s.segs.map Seg.enc)=(s.segs.drop n).map Seg.enc:=by rw[List.map_drop]
  have hdr0:((s.segs.drop n).map Seg.enc)[0]?=some [.i .i64 gb,.i .i64 gnn,.i .i64 gz]:=by rw[zG,List.getElem?_drop,Nat.add_zero];rw[zG] at g0;exact g0
  have hdo:aQ 3 ((s.segs.drop n).map Seg.enc)=true:=aV Seg.len _;have hdl:((s.segs.drop n).map Seg.enc).length<=64:=by simp;omega
  rw[hcell] at q1;have f1:∀ b0 b1 b2 b4:Box,iG call 112 [vs N,.one (.f 113 [5,3])] [b0,b1,b2,.cells [zS X],b4,.cells [zS N]]=some (.one (.f 152 [7,6]),[b0,b1,b2,.cells [zS X],b4,.cells [zS N],.cells [zS N],.cells [.f 113 [5,3]]]):=fun b0 b1 b2 b4 =>
   xf (ids:=[5,3]) rfl rfl rfl (aD (ids:=[0,1]) rfl rfl rfl (yn N 113 N X) rfl) rfl
  have f2':=wg N 115 (eK s n);obtain⟨⟨sfl,scp,sar,slf,sdn⟩,ver,segs,next,sure,size,sum⟩:=s;obtain⟨⟨wfl,wcp,war,wlf,wdn⟩,we⟩:=w;rw[eX] at f2';simp only[aP,Dsk.l,dG,hcell] at f2' q5 q1 kl hver hslen hnl hok hdr hdr0 hdo hdl h hbo ⊢;have f2:∀ b0 b1 b3 b4 b5 b6 b7:Box,iG call 112 [vs N,.one (.f 115 [2])] [b0,b1,.cells [.d (.l (sfl.map Fil.enc)),zI scp,zB sar,zI slf,zB sdn,zI (ver+1),.cl ((segs.drop n).map Seg.enc),zI next,zI sure,zI X.length,zW (cB X)],b3,b4,b5,b6,b7]=some (.one (.f 152 [9,8]),[b0,b1,.cells [.d (.l (sfl.map Fil.enc)),zI scp,zB sar,zI slf,zB sdn,zI (ver+1),.cl ((segs.drop n).map Seg.enc),zI next,zI sure,zI X.length,zW (cB X)],b3,b4,b5,b6,b7,.cells [zS N],.cells [.f 115 [2]]]):=fun b0 b1 b3 b4 b5 b6 b7 =>
   xf (ids:=[2]) rfl rfl rfl (aD (ids:=[0]) rfl rfl rfl f2' rfl) rfl
  have f4:∀ b0 b1 b4:Box,tz 4 [.nf,.nf,.nf,.nf] [(0,1,.one (.f 110 [5])),(1,1,.one (.f 152 [7,6])),(2,1,.one (.f 114 [5])),(3,1,.one (.f 152 [9,8]))] [b0,b1,.cells [.d (.l (sfl.map Fil.enc)),zI scp,zB sar,zI slf,zB sdn,zI (ver+1),.cl ((segs.drop n).map Seg.enc),zI next,zI sure,zI X.length,zW (cB X)],.cells [zS X],b4,.cells [zS N],.cells [zS N],.cells [.f 113 [5,3]],.cells [zS N],.cells [.f 115 [2]]]=some (V.one (.sp 10 4),[b0,b1,.cells [.d (.l (sfl.map Fil.enc)),zI scp,zB sar,zI slf,zB sdn,zI (ver+1),.cl ((segs.drop n).map Seg.enc),zI next,zI sure,zI X.length,zW (cB X)],.cells [zS X],b4,.cells [zS N],.cells [zS N],.cells [.f 113 [5,3]],.cells [zS N],.cells [.f 115 [2]],.cells [.f 110 [5],.f 152 [7,6],.f 114 [5],.f 152 [9,8]]]):=fun b0 b1 b4 =>
   Kg (ids:=[5,7,3,6,9,2,8]) rfl rfl rfl rfl
  have f3:∀ b0 b1 b4:Box,iG call 109 [.agg [.d (.l (sfl.map Fil.enc)),zI scp,zB sar,zI slf,zB sdn],.one (.sp 10 4)] [b0,b1,.cells [.d (.l (sfl.map Fil.enc)),zI scp,zB sar,zI slf,zB sdn,zI (ver+1),.cl ((segs.drop n).map Seg.enc),zI next,zI sure,zI X.length,zW (cB X)],.cells [zS X],b4,.cells [zS N],.cells [zS N],.cells [.f 113 [5,3]],.cells [zS N],.cells [.f 115 [2]],.cells [.f 110 [5],.f 152 [7,6],.f 114 [5],.f 152 [9,8]]]=some (V.tup [(true,[.d (.l (wfl.map Fil.enc)),zI wcp,zB war,zI wlf,zB wdn]),(false,[zI we])],[b0,b1,.cells [.d (.l (sfl.map Fil.enc)),zI scp,zB sar,zI slf,zB sdn,zI (ver+1),.cl ((segs.drop n).map Seg.enc),zI next,zI sure,zI X.length,zW (cB X)],.cells [zS X],b4,.cells [zS N],.cells [zS N],.cells [.f 113 [5,3]],.cells [zS N],.cells [.f 115 [2]],.cells [.f 110 [5],.f 152 [7,6],.f 114 [5],.f 152 [9,8]]]):=fun b0 b1 b4 =>
   xf (ids:=[10,5,7,3,6,9,2,8]) rfl rfl rfl (aD (ids:=[0,1,2,3,4,5,6,7]) rfl rfl rfl q5 rfl) rfl
  clear f2' q5;by_cases c1:we=0
  ·subst c1;rw[if_neg (by simp)]
   have qf:call 119 [.agg [.d (.l (sfl.map Fil.enc)),zI scp,zB sar,zI slf,zB sdn,zI ver,.d (.l (segs.map Seg.enc)),zI next,zI sure,zI size,zW sum]] []=some (vi (Sto.floor ⟨⟨sfl,scp,sar,slf,sdn⟩,ver,segs,next,sure,size,sum⟩),[]):=nY ⟨⟨sfl,scp,sar,slf,sdn⟩,ver,segs,next,sure,size,sum⟩;have hfo:=eC h;have qn:=lV hfo;have hseg:=h.seg;have hnm:jW ⟨⟨sfl,scp,sar,slf,sdn⟩,ver,segs,next,sure,size,sum⟩ n=(segs.take n).map (fun g=>fileN g.base)++(if 0<Sto.floor ⟨⟨sfl,scp,sar,slf,sdn⟩,ver,segs,next,sure,size,sum⟩ then[aH (Sto.floor ⟨⟨sfl,scp,sar,slf,sdn⟩,ver,segs,next,sure,size,sum⟩)] else[]):=rfl
   obtain⟨NS,hNS⟩:∃ NS,NS=jW ⟨⟨sfl,scp,sar,slf,sdn⟩,ver,segs,next,sure,size,sum⟩ n:=⟨_,rfl⟩;rw[<- hNS];rw[hnm] at hNS;clear hnm;generalize Sto.floor ⟨⟨sfl,scp,sar,slf,sdn⟩,ver,segs,next,sure,size,sum⟩=fl' at *;generalize aH fl'=FN at *;have hnl3:NS.length<=1000:=by
    rw[hNS,zA,zM,zQ];split <;> simp <;> omega
   have r2:=E8 ⟨wfl,wcp,war,wlf,wdn⟩ kl (by omega) (by omega) NS hnl3
   generalize uq NS (⟨wfl,wcp,war,wlf,wdn⟩,0)=z at *;obtain⟨⟨zfl,zcp,zar,zlf,zdn⟩,ze⟩:=z;simp only[Dsk.l,aP] at r2 ⊢;have htkn:List.take n (segs.map Seg.enc)=(segs.take n).map Seg.enc:=by rw[List.map_take]
   have hol:(segs.take n).length<=64:=by rw[zQ];omega
   have hom:∀ g∈segs.take n,0<=g.base∧g.base<=1099511627776:=fun g hg=>(hseg g (zZ hg)).1
   have hlen2:n=(segs.take n).length:=by rw[zQ];omega
   obtain⟨OL,hOL⟩:∃ OL,OL=segs.take n:=⟨_,rfl⟩;rw[<- hOL] at htkn hol hom hNS hlen2;clear hOL;(simp(disch:=first|decide|omega|(intros;exact aN rfl rfl)|simp only[am]) only[gu,N0,q0,c0,hok,hnl,hdr,hdr0,hdo,q1,q2,↓jN,fj,cu,q3,q4,↓C8,↓Cr,↓Cl,f1,f2,f4,f3,htkn,zM,go_sem,seval,aO,gc,A.kind,A.xs,bX,A.isN])
   have hfin:(Sto.l ⟨⟨zfl,zcp,zar,zlf,zdn⟩,ver+1,segs.drop n,next,sure,(X.length:Nat),cB X⟩)=[.d (.l (zfl.map Fil.enc)),zI zcp,zB zar,zI zlf,zB zdn,zI (ver+1),.d (.l ((segs.drop n).map Seg.enc)),zI next,zI sure,zI X.length,zW (cB X)]:=rfl;rw[hfin];clear hfin f1 f2 f3 f4;refine ax (m:=0) (σ:=Nat) (fun i=>OL.length-i) (fun i=>i<=OL.length) (fun i=>[V.one (.p 0 0),V.one (.p 1 0),V.one (.p 2 0),V.one (.p 3 0),V.one (.sl 4 1 0 (OL.take i).length),vl (OL.map Seg.enc),vi OL.length,vi i])
    (fun i=>[.cells [.d (.l (sfl.map Fil.enc)),zI scp,zB sar,zI slf,zB sdn,zI ver,.d (.l (segs.map Seg.enc)),zI next,zI sure,zI size,zW sum],.cells [.ns,zI 0,zB false,zI 0,zB false,zI 0,.ns,zI 0,zI 0,zI 0,zW 0],.cells [.d (.l (sfl.map Fil.enc)),zI scp,zB sar,zI slf,zB sdn,zI (ver+1),.cl ((segs.drop n).map Seg.enc),zI next,zI sure,zI X.length,zW (cB X)],.cells [.d (.l (wfl.map Fil.enc)),zI wcp,zB war,zI wlf,zB wdn],.arr 1 ((OL.take i).map (fun g=>zy (fileN g.base))) 0])
    (fun _=>(V.tup [(true,[.d (.l (zfl.map Fil.enc)),zI zcp,zB zar,zI zlf,zB zdn,zI (ver+1),.d (.l ((segs.drop n).map Seg.enc)),zI next,zI sure,zI X.length,zW (cB X)]),(false,[zI ze])],([]:Hp))) ?_ 0 (zP _) _ _ ?_
   rotate_left
   ·exact bO
   clear q1 q2 q3 q4 q0;intro i hi R hR;by_cases c4:i<OL.length
   ·have hc4:(i:Int)<(OL.length:Int):=by omega
    have g1:(OL.map Seg.enc)[i]?=some [.i .i64 OL[i].base,.i .i64 OL[i].n,.i .i64 OL[i].size]:=by
     rw[zG,zE c4];rfl
    have g2:=lD (hom _ (zN c4));have hR':=hR (i+1) (by omega) (by omega)
    rw[zO c4,List.map_append,zA,List.map_cons,List.map_nil,List.length_cons,List.length_nil] at hR';have hrl:((OL.take i).map (fun g=>zy (fileN g.base))).length=(OL.take i).length:=by simp
    have hrl2:(OL.take i).length<=64:=by rw[zQ];omega
    generalize (OL.take i).map (fun g=>zy (fileN g.base))=RQ at *
    generalize (OL.take i).length=RL at *;have g3:=va (fileN OL[i].base);simp only[zy] at hR';generalize fileN OL[i].base=FB at *;generalize OL[i]=sg at *;obtain⟨sb,sn,sz⟩:=sg;simp only at g1 g2;have g4:∀ b0 b1 b2 b3 b4 b5:Box,ak call 118 [vs FB] [b0,b1,b2,b3,b4,b5]=some (.one (.f 154 [6]),[b0,b1,b2,b3,b4,b5,.cells [zS FB]]):=fun b0 b1 b2 b3 b4 b5=>aD (ids:=[]) rfl rfl rfl g3 rfl
    (simp(disch:=first|decide|omega|(intros;exact aN rfl rfl)|simp only[am]) only[gu,Co,zT hc4,g1,g2,g4,sN,lM,hrl,go_sem,seval,aO,gc,A.kind,A.xs,bX,A.isN])
    exact hR' _ _ bO
   ·have hc4:¬ (i:Int)<(OL.length:Int):=by omega
    have htk:OL.take i=OL:=zL (by omega)
    rw[htk];have hnt:List.take NS.length (NS.map zy)=NS.map zy:=zL (by simp)
    have hrl:(OL.map (fun g=>zy (fileN g.base))).length=OL.length:=by simp
    by_cases c5:0<fl'
    ·rw[if_pos c5] at hNS;have hrw:OL.map (fun g=>zy (fileN g.base))++[[.fn 154 [[.s FN]]]]=NS.map zy:=by rw[hNS];simp[zy]
     have hnl2:OL.length+1=NS.length:=by rw[hNS];simp
     have g3:=va FN;generalize OL.map (fun g=>zy (fileN g.base))=RQ at *
     have g4:∀ b0 b1 b2 b3 b4:Box,ak call 118 [vs FN] [b0,b1,b2,b3,b4]=some (.one (.f 154 [5]),[b0,b1,b2,b3,b4,.cells [zS FN]]):=fun b0 b1 b2 b3 b4=>aD (ids:=[]) rfl rfl rfl g3 rfl
     (simp(disch:=first|decide|omega|(intros;exact aN rfl rfl)|simp only[am]) only[gu,Co,N0,zF hc4,qf,qn,zT c5,g4,sN,lM,hrl,hrw,hnl2,hnt,r2,go_sem,seval,aO,gc,A.kind,A.xs,bX,A.isN])
     try simp[trim]
    ·rw[if_neg c5,List.append_nil] at hNS;have hrw:OL.map (fun g=>zy (fileN g.base))=NS.map zy:=by rw[hNS];simp
     have hnl2:OL.length=NS.length:=by rw[hNS];simp
     rw[hrw] at hrl ⊢;rw[show(.sl 4 1 0 OL.length:L)=.sl 4 1 0 NS.length by rw[hnl2]]
     refine dm ?_ Co.eq_1 N0.eq_1 (zF hc4) qf (zF c5) hnt r2;try simp[trim]
  ·rw[if_pos c1];(simp(disch:=first|decide|omega|(intros;exact aN rfl rfl)|simp only[am]) only[gu,N0,q0,c0,hok,hnl,hdr,hdr0,hdo,q1,q2,↓jN,fj,cu,q3,q4,↓C8,↓Cr,↓Cl,f1,f2,f4,f3,c1,go_sem,seval,aO,gc,A.kind,A.xs,bX,A.isN])
   try simp[trim,c1,Sto.l,Dsk.l]
structure Cnf where
 nodes:Int
 seg:Int
 keep:Int
 count:Int
 batch:Int
 most:Int
 window:Int
 held:Int
 chunk:Int
 pending:Int
 links:Int
 beat:Int
 retry:Int
 lease:Int
 top:Int
 deriving DecidableEq
def Cnf.enc (e:Cnf):List D:=[.i .i64 e.nodes,.i .i64 e.seg,.i .i64 e.keep,.i .i64 e.count,.i .i64 e.batch,.i .i64 e.most,.i .i64 e.window,.i .i64 e.held,.i .i64 e.chunk,.i .i64 e.pending,.i .i64 e.links,.i .i64 e.beat,.i .i64 e.retry,.i .i64 e.lease,.i .i64 e.top]
def Cnf.ok (e:Cnf):Prop:=(-9223372036854775808<=e.nodes∧e.nodes<9223372036854775808)∧(-9223372036854775808<=e.seg∧e.seg<9223372036854775808)∧(-9223372036854775808<=e.keep∧e.keep<9223372036854775808)∧(-9223372036854775808<=e.count∧e.count<9223372036854775808)∧(-9223372036854775808<=e.batch∧e.batch<9223372036854775808)∧(-9223372036854775808<=e.most∧e.most<9223372036854775808)∧(-9223372036854775808<=e.window∧e.window<9223372036854775808)∧(-9223372036854775808<=e.held∧e.held<9223372036854775808)∧(-9223372036854775808<=e.chunk∧e.chunk<9223372036854775808)∧(-9223372036854775808<=e.pending∧e.pending<9223372036854775808)∧(-9223372036854775808<=e.links∧e.links<9223372036854775808)∧(-9223372036854775808<=e.beat∧e.beat<9223372036854775808)∧(-9223372036854775808<=e.retry∧e.retry<9223372036854775808)∧(-9223372036854775808<=e.lease∧e.lease<9223372036854775808)∧(-9223372036854775808<=e.top∧e.top<9223372036854775808)
def Cnf.ty:List Ty:=[.i .i64,.i .i64,.i .i64,.i .i64,.i .i64,.i .i64,.i .i64,.i .i64,.i .i64,.i .i64,.i .i64,.i .i64,.i .i64,.i .i64,.i .i64]
structure Mg where
 kd:Int
 fr:Int
 tt:Int
 ic:Int
 pe:Int
 sq:Int
 at_:Int
 wi:Int
 hi:Int
 wa:Int
 ix:Int
 sz:Int
 su:Int
 da:Txt
 rs:List Rec
structure Boo where
 at_:Int
 sz:Int
 su:Int
 got:Txt
structure Fw where
 id_:Int
 ic:Int
 sto:Sto
 sq:Int
 wa:Int
 hd:List (List Rec)
 bo:Boo
 hi:Int
def Boo.l (b:Boo):List L:=[zI b.at_,zI b.sz,zW b.su,zS b.got]
def Cnf.l (c:Cnf):List L:=[zI c.nodes,zI c.seg,zI c.keep,zI c.count,zI c.batch,zI c.most,zI c.window,zI c.held,zI c.chunk,zI c.pending,zI c.links,zI c.beat,zI c.retry,zI c.lease,zI c.top]
def Mg.l (m:Mg):List L:=[zI m.kd,zI m.fr,zI m.tt,zI m.ic,zI m.pe,zI m.sq,zI m.at_,zI m.wi,zI m.hi,zI m.wa,zI m.ix,zI m.sz,zW m.su,zS m.da,.d (.l (m.rs.map Rec.enc))]
def Fw.l (f:Fw):List L:=[zI f.id_,zI f.ic,.d (.l (f.sto.disk.files.map Fil.enc)),zI f.sto.disk.cap,zB f.sto.disk.armed,zI f.sto.disk.left,zB f.sto.disk.down,zI f.sto.ver,.d (.l (f.sto.segs.map Seg.enc)),zI f.sto.next,zI f.sto.sure,zI f.sto.size,zW f.sto.sum,zI f.sq,zI f.wa,.d (.l (f.hd.map hE)),zI f.bo.at_,zI f.bo.sz,zW f.bo.su,zS f.bo.got,zI f.hi]
def aK (f:Fw) (c:Cnf) (m:Mg):List L:=[zI f.id_,zI f.ic,.d (.l (f.sto.disk.files.map Fil.enc)),zI f.sto.disk.cap,zB f.sto.disk.armed,zI f.sto.disk.left,zB f.sto.disk.down,zI f.sto.ver,.d (.l (f.sto.segs.map Seg.enc)),zI f.sto.next,zI f.sto.sure,zI f.sto.size,zW f.sto.sum,zI f.sq,zI f.wa,.d (.l (f.hd.map hE)),zI f.bo.at_,zI f.bo.sz,zW f.bo.su,zS f.bo.got,zI f.hi,zI c.nodes,zI c.seg,zI c.keep,zI c.count,zI c.batch,zI c.most,zI c.window,zI c.held,zI c.chunk,zI c.pending,zI c.links,zI c.beat,zI c.retry,zI c.lease,zI c.top,zI m.kd,zI m.fr,zI m.tt,zI m.ic,zI m.pe,zI m.sq,zI m.at_,zI m.wi,zI m.hi,zI m.wa,zI m.ix,zI m.sz,zW m.su,zS m.da,.d (.l (m.rs.map Rec.enc))]
def kA (seg:Int):List Rec->Sto->Sto × Int
 | [],s=>(s,0)
 | r::l,s=>if(eu s seg r).2≠0 then eu s seg r else kA seg l (eu s seg r).1
def qJ (s:Sto) (keep count e:Int):Sto × Int:=if(cM s keep count).2=10 then((cM s keep count).1,10) else((cM s keep count).1,e)
def xY (was keep count:Int) (a:Sto × Int):Sto × Int :=
 if a.2=10 then a else if was<a.1.next then(if(aU a.1).2≠0 then aU a.1 else qJ (aU a.1).1 keep count a.2) else qJ a.1 keep count a.2
def dW (s:Sto) (c:Cnf) (l:List Rec):Sto × Int:=xY s.next c.keep c.count (kA c.seg l s)
theorem BH (seg:Int) (l:List Rec) (i:Nat) (h:i<l.length) (s:Sto):kA seg (l.drop i) s=if(eu s seg l[i]).2≠0 then eu s seg l[i] else kA seg (l.drop (i+1)) (eu s seg l[i]).1:=by
 rw[zD h];rfl
structure Go1 (k u n:Nat) (s:Sto):Prop where
 ok:okS k u s
 wr:∃ f S l0 R,WR f S l0 s R∧R.length<=n
theorem Go1.base {k u n:Nat} {s:Sto} (h:Go1 k u n s):∀ g∈s.segs,g.base<=s.floor+n:=by
 obtain⟨f,S,l0,R,hw,hn⟩:=h.wr;have hf:=hw.floor;have hx:=hw.next;obtain⟨M,g0,l,w,rfl⟩:=hw;intro g hg;rw[w.inv.segs] at hg;have hl:=iO _ _ _ w.inv.chain;have hnx:=w.inv.next;rw[hf];have e:(aM (M++[(g0,l)])).length=(aM M).length+l.length:=by rw[cK,eZ,zA]
 rcases zX.1 hg with hg|hg
 ·obtain⟨p,hp,rfl⟩:=List.mem_map.1 hg;have:=uf w.inv.chain p hp;omega
 ·rw[zV.1 hg];omega
theorem Go1.app {k u n:Nat} {s:Sto} (h:Go1 k u n s) {seg:Int} (hseg:1<=seg) (hu:u<1000000000000) (r:Rec):Go1 (k+2) (u+1000) (n+1) (eu s seg r).1:=by
 obtain⟨f,S,l0,R,hw,hn⟩:=h.wr;refine⟨C0 h.ok seg r,?_⟩;rcases(hw.app h.ok hseg hu r).2.2 with⟨_,_,_,_,_,h1⟩|⟨h1,_⟩
 ·exact⟨_,_,_,_,h1,by simp;omega⟩
 ·exact⟨_,_,_,_,h1,by omega⟩
theorem Go1.sync {k u n:Nat} {s:Sto} (h:Go1 k u n s):Go1 k u n (aU s).1:=by
 obtain⟨f,S,l0,R,hw,hn⟩:=h.wr;exact⟨kM h.ok,_,_,_,_,(hw.sync h.ok).1,hn⟩
theorem Go1.same {k u n:Nat} {s:Sto} (h:Go1 k u n s):∀ g∈s.segs,mq s g.base=bB s g.base:=by
 obtain⟨f,S,l0,R,hw,hn⟩:=h.wr;exact hw.same_state h.ok
theorem Go1.up {k u n k' u' n':Nat} {s:Sto} (h:Go1 k u n s) (hk:k<=k') (hu:u<=u') (hn:n<=n'):Go1 k' u' n' s:=by
 obtain⟨f,S,l0,R,hw,hr⟩:=h.wr;exact⟨h.ok.up hk hu,f,S,l0,R,hw,by omega⟩
theorem vY {k u n:Nat} (f:Fw) (c:Cnf) (m:Mg) (hg:Go1 k u n f.sto) (l:List Rec) (hl:l.length<=200) (hr:∀ r∈l,r.ok) (hseg:1<=c.seg) (hk:k+2*l.length<=400000) (hu:u+1000*l.length<=900000) (hn:n+l.length<=1000) :
  call 63 [.one (.p 0 0),vl (l.map Rec.enc)] [.cells (aK f c m)]=some (vi (dW f.sto c l).2,[.cells (aK { f with sto:=(dW f.sto c l).1 } c m)]):=by
 have hcell:∀ s:Sto,s.l=[.d (.l (s.disk.files.map Fil.enc)),zI s.disk.cap,zB s.disk.armed,zI s.disk.left,zB s.disk.down,zI s.ver,.d (.l (s.segs.map Seg.enc)),zI s.next,zI s.sure,zI s.size,zW s.sum]:=fun _=>rfl
 obtain⟨Z,hZ⟩:∃ Z,Z=dW f.sto c l:=⟨_,rfl⟩;rw[<- hZ];unfold dW at hZ;apply ae Uy rfl;simp only[aK];refine dm ?_ Eb.eq_1 @zM;refine ax (m:=1) (σ:=Nat × Sto) (fun t=>l.length-t.1) (fun t=>t.1<=l.length∧Go1 (k+2*t.1) (u+1000*t.1) (n+t.1) t.2∧Z=xY f.sto.next c.keep c.count (kA c.seg (l.drop t.1) t.2)) (fun t=>[V.one (.p 0 0),vi f.sto.next,vi 0,vl (l.map Rec.enc),vi l.length,vi t.1])
  (fun t=>[.cells (aK { f with sto:=t.2 } c m)]) (fun _=>((vi Z.2,[.cells (aK { f with sto:=Z.1 } c m)]):V × Hp)) ?_ (0,f.sto) ⟨zP _,hg,hZ⟩ _ _ ?_
 rotate_left
 ·exact bO
 clear hZ hg;rintro⟨i,s⟩ ⟨h1,hg,hZ⟩ R hR;simp only[aK] at h1 hg hZ ⊢;by_cases ci:i<l.length
 ·have hc:(i:Int)<(l.length:Int):=by omega
  have g1:(l.map Rec.enc)[i]?=some l[i].enc:=by rw[zG,zE ci];rfl
  rw[BH c.seg l i ci] at hZ;have q1:=BS s hg.ok (by omega) (by omega) c.seg l[i] (hr _ (zN ci))
  replace hg:=hg.app hseg (by omega) l[i]
  have hR':=hR (i+1,(eu s c.seg l[i]).1);generalize eu s c.seg l[i]=w at *;generalize l[i]=r at *;clear hR;obtain⟨s,e⟩:=w;obtain⟨ra,rb,rd⟩:=r;simp only[dG,hcell,Rec.enc,List.map_cons,List.map_nil] at q1 g1 hg hZ hR';by_cases ce:e=0
  ·subst ce;rw[if_neg (by simp)] at hZ
   have hK:=hR' (by omega) ⟨by omega,hg.up (by omega) (by omega) (by omega),hZ⟩
   refine dm ?_ kI.eq_1 (zT hc) g1 q1;exact hK _ _ bO
  ·rw[if_pos ce] at hZ;clear hR';unfold xY at hZ;simp only at hZ;by_cases c10:e=10
   ·rw[if_pos c10] at hZ;rw[hZ];refine dm ?_ kI.eq_1 Eb.eq_1 (zT hc) g1 q1 (eq_false ce) (eq_true c10);simp[zR,c10]
   ·rw[if_neg c10] at hZ;by_cases cn:f.sto.next<s.next
    ·rw[if_pos cn] at hZ;have q4:=qA s hg.ok (by omega) (by omega)
     replace hg:=hg.sync
     rw[hZ];generalize aU s=y at *;obtain⟨y1,ye⟩:=y;simp only[dG,hcell] at q4 hg ⊢;by_cases cy:ye=0
     ·subst cy;rw[if_neg (by simp)]
      have q5:=mF y1 hg.ok (by omega) (by omega) c.keep c.count (fun a ha=>by have:=hg.base a ha;omega) hg.same
      unfold qJ;generalize cM y1 c.keep c.count=z at *;obtain⟨z1,ze⟩:=z;simp only[dG,hcell] at q5 ⊢;by_cases cz:ze=10
      ·subst cz;rw[if_pos rfl];refine dm ?_ kI.eq_1 Eb.eq_1 (zT hc) g1 q1 (eq_false ce) (eq_false c10) (zT cn) q4 q5;simp[zR]
      ·rw[if_neg cz];refine dm ?_ kI.eq_1 Eb.eq_1 (zT hc) g1 q1 (eq_false ce) (eq_false c10) (zT cn) q4 q5 (eq_false cz);simp[zR]
     ·rw[if_pos cy];refine dm ?_ kI.eq_1 Eb.eq_1 (zT hc) g1 q1 (eq_false ce) (eq_false c10) (zT cn) q4 (eq_false cy);simp[zR]
    ·rw[if_neg cn] at hZ;rw[hZ];have q5:=mF s hg.ok (by omega) (by omega) c.keep c.count (fun a ha=>by have:=hg.base a ha;omega) hg.same
     unfold qJ;generalize cM s c.keep c.count=z at *;obtain⟨z1,ze⟩:=z;simp only[dG,hcell] at q5 ⊢;by_cases cz:ze=10
     ·subst cz;rw[if_pos rfl];refine dm ?_ kI.eq_1 Eb.eq_1 (zT hc) g1 q1 (eq_false ce) (eq_false c10) (zF cn) q5;simp[zR]
     ·rw[if_neg cz];refine dm ?_ kI.eq_1 Eb.eq_1 (zT hc) g1 q1 (eq_false ce) (eq_false c10) (zF cn) q5 (eq_false cz);simp[zR]
 ·have hc:¬ (i:Int)<(l.length:Int):=by omega
  rw[zC (by omega)] at hZ
  simp only[kA] at hZ;clear hR;unfold xY at hZ;simp only at hZ;rw[if_neg (by decide)] at hZ
  by_cases cn:f.sto.next<s.next
  ·rw[if_pos cn] at hZ;have q4:=qA s hg.ok (by omega) (by omega)
   replace hg:=hg.sync
   rw[hZ];generalize aU s=y at *;obtain⟨y1,ye⟩:=y;simp only[dG,hcell] at q4 hg ⊢;by_cases cy:ye=0
   ·subst cy;rw[if_neg (by simp)]
    have q5:=mF y1 hg.ok (by omega) (by omega) c.keep c.count (fun a ha=>by have:=hg.base a ha;omega) hg.same
    unfold qJ;generalize cM y1 c.keep c.count=z at *;obtain⟨z1,ze⟩:=z;simp only[dG,hcell] at q5 ⊢;by_cases cz:ze=10
    ·subst cz;rw[if_pos rfl];refine dm ?_ kI.eq_1 Eb.eq_1 (zF hc) (zT cn) q4 q5;simp[zR]
    ·rw[if_neg cz];refine dm ?_ kI.eq_1 Eb.eq_1 (zF hc) (zT cn) q4 q5 (eq_false cz);simp[zR]
   ·rw[if_pos cy];refine dm ?_ kI.eq_1 Eb.eq_1 (zF hc) (zT cn) q4 (eq_false cy);simp[zR]
  ·rw[if_neg cn] at hZ;rw[hZ];have q5:=mF s hg.ok (by omega) (by omega) c.keep c.count (fun a ha=>by have:=hg.base a ha;omega) hg.same
   unfold qJ;generalize cM s c.keep c.count=z at *;obtain⟨z1,ze⟩:=z;simp only[dG,hcell] at q5 ⊢;by_cases cz:ze=10
   ·subst cz;rw[if_pos rfl];refine dm ?_ kI.eq_1 Eb.eq_1 (zF hc) (zF cn) q5;simp[zR]
   ·rw[if_neg cz];refine dm ?_ kI.eq_1 Eb.eq_1 (zF hc) (zF cn) q5 (eq_false cz);simp[zR]
def eF (f:Fw) (c:Cnf) (m:Mg) (x:L):List L:=[zI f.id_,zI f.ic,.d (.l (f.sto.disk.files.map Fil.enc)),zI f.sto.disk.cap,zB f.sto.disk.armed,zI f.sto.disk.left,zB f.sto.disk.down,zI f.sto.ver,.d (.l (f.sto.segs.map Seg.enc)),zI f.sto.next,zI f.sto.sure,zI f.sto.size,zW f.sto.sum,zI f.sq,zI f.wa,x,zI f.bo.at_,zI f.bo.sz,zW f.bo.su,zS f.bo.got,zI f.hi,zI c.nodes,zI c.seg,zI c.keep,zI c.count,zI c.batch,zI c.most,zI c.window,zI c.held,zI c.chunk,zI c.pending,zI c.links,zI c.beat,zI c.retry,zI c.lease,zI c.top,zI m.kd,zI m.fr,zI m.tt,zI m.ic,zI m.pe,zI m.sq,zI m.at_,zI m.wi,zI m.hi,zI m.wa,zI m.ix,zI m.sz,zW m.su,zS m.da,.d (.l (m.rs.map Rec.enc))]
def vd (l:List Rec):Int:=(l.getLastD ⟨0,0,[]⟩).at_
def dY (h:List (List Rec)) (at_:Int):List (List Rec):=h.filter fun l=>decide (at_<=vd l)
theorem GQ {l:List Rec} (h:1<=l.length):∃ r:Rec,(l.map Rec.enc)[l.length-1]?=some [.i .i64 (vd l),.i .i64 r.ti,.s r.da]:=by
 have hl:l.length-1<l.length:=by omega
 refine⟨l[l.length-1],?_⟩;rw[zG,zE hl];unfold vd;rw[List.getLastD_eq_getLast?,List.getLast?_eq_getElem?,zE hl];rfl
theorem Aa (h:List (List Rec)) (a:Int) (i:Nat) (hi:i<h.length):dY (h.take (i+1)) a=if a<=vd h[i] then dY (h.take i) a++[h[i]] else dY (h.take i) a:=by
 unfold dY;rw[zO hi,List.filter_append];by_cases c:a<=vd h[i] <;> simp[c]
theorem Ey (h:List (List Rec)) (a:Int):(dY h a).length<=h.length:=List.length_filter_le _ _
theorem Be {k u:Nat} (f:Fw) (c:Cnf) (m:Mg) (h:okS k u f.sto) (hk:k<=700000) (hu:u<=1000000) (hh:okH f.hd) (b:Boo) (hb : -9223372036854775808<=b.at_∧b.at_<9223372036854775808) (hx:b.got.length<=20000) :
  ((bf f.sto b.at_ b.got).2≠0->call 65 [.one (.p 0 0),.agg b.l] [.cells (aK f c m)]=some (vi (bf f.sto b.at_ b.got).2,[.cells (aK { f with sto:=(bf f.sto b.at_ b.got).1 } c m)])) ∧
  ((bf f.sto b.at_ b.got).2=0->call 65 [.one (.p 0 0),.agg b.l] [.cells (aK f c m)]=some (vi 0,[.cells (eF { f with sto:=(bf f.sto b.at_ b.got).1 } c m (.sl 2 1 0 (dY f.hd b.at_).length)),.cells b.l,.arr 1 ((dY f.hd b.at_).map hE) 0])):=by
 have hcell:∀ s:Sto,s.l=[.d (.l (s.disk.files.map Fil.enc)),zI s.disk.cap,zB s.disk.armed,zI s.disk.left,zB s.disk.down,zI s.ver,.d (.l (s.segs.map Seg.enc)),zI s.next,zI s.sure,zI s.size,zW s.sum]:=fun _=>rfl
 have q:=E0 f.sto h hk hu b.at_ hb b.got hx;have hlen:=hh.len;generalize bf f.sto b.at_ b.got=w at *;obtain⟨s,e⟩:=w;obtain⟨ba,bz,bu,bg⟩:=b;simp only[dG,hcell,Boo.l,aK,eF] at q ⊢;constructor
 ·intro he;apply ae Tm rfl;refine dm ?_ Qp.eq_1 q (eq_false he);simp[zR]
 ·intro he;subst he;apply ae Tm rfl;refine dm ?_ Qp.eq_1 q @zM;refine ax (m:=1) (σ:=Nat) (fun i=>f.hd.length-i) (fun i=>i<=f.hd.length) (fun i=>[V.one (.p 0 0),V.one (.p 1 0),V.one (.sl 2 1 0 (dY (f.hd.take i) ba).length),vl (f.hd.map hE),vi f.hd.length,vi i])
   (fun i=>[.cells [zI f.id_,zI f.ic,.d (.l (s.disk.files.map Fil.enc)),zI s.disk.cap,zB s.disk.armed,zI s.disk.left,zB s.disk.down,zI s.ver,.d (.l (s.segs.map Seg.enc)),zI s.next,zI s.sure,zI s.size,zW s.sum,zI f.sq,zI f.wa,.d (.l (f.hd.map hE)),zI f.bo.at_,zI f.bo.sz,zW f.bo.su,zS f.bo.got,zI f.hi,zI c.nodes,zI c.seg,zI c.keep,zI c.count,zI c.batch,zI c.most,zI c.window,zI c.held,zI c.chunk,zI c.pending,zI c.links,zI c.beat,zI c.retry,zI c.lease,zI c.top,zI m.kd,zI m.fr,zI m.tt,zI m.ic,zI m.pe,zI m.sq,zI m.at_,zI m.wi,zI m.hi,zI m.wa,zI m.ix,zI m.sz,zW m.su,zS m.da,.d (.l (m.rs.map Rec.enc))],.cells [zI ba,zI bz,zW bu,zS bg],.arr 1 ((dY (f.hd.take i) ba).map hE) 0]) (fun _=>((vi 0,[.cells [zI f.id_,zI f.ic,.d (.l (s.disk.files.map Fil.enc)),zI s.disk.cap,zB s.disk.armed,zI s.disk.left,zB s.disk.down,zI s.ver,.d (.l (s.segs.map Seg.enc)),zI s.next,zI s.sure,zI s.size,zW s.sum,zI f.sq,zI f.wa,.sl 2 1 0 (dY f.hd ba).length,zI f.bo.at_,zI f.bo.sz,zW f.bo.su,zS f.bo.got,zI f.hi,zI c.nodes,zI c.seg,zI c.keep,zI c.count,zI c.batch,zI c.most,zI c.window,zI c.held,zI c.chunk,zI c.pending,zI c.links,zI c.beat,zI c.retry,zI c.lease,zI c.top,zI m.kd,zI m.fr,zI m.tt,zI m.ic,zI m.pe,zI m.sq,zI m.at_,zI m.wi,zI m.hi,zI m.wa,zI m.ix,zI m.sz,zW m.su,zS m.da,.d (.l (m.rs.map Rec.enc))],.cells [zI ba,zI bz,zW bu,zS bg],.arr 1 ((dY f.hd ba).map hE) 0]):V × Hp)) ?_ 0 (zP _) _ _ ?_
  rotate_left
  ·exact bO
  intro i h1 R hR;have hrl:=Ey (f.hd.take i) ba;have htl:(f.hd.take i).length<=i:=by rw[zQ];omega
  have hml:((dY (f.hd.take i) ba).map hE).length=(dY (f.hd.take i) ba).length:=by simp
  by_cases ci:i<f.hd.length
  ·have hc:(i:Int)<(f.hd.length:Int):=by omega
   have g1:(f.hd.map hE)[i]?=some [.l (f.hd[i].map Rec.enc)]:=by rw[zG,zE ci];rfl
   have hob:=hh.all _ (zN ci);have hbl:=hob.len;obtain⟨r,g2⟩:=GQ hbl.1;have hn1:((f.hd[i].length:Nat):Int)-1=((f.hd[i].length-1:Nat):Int):=by omega
   have hn2:(((f.hd[i].length:Nat):Int)-1).toNat=f.hd[i].length-1:=by omega
   have hn3:f.hd[i].length-1<f.hd[i].length:=by omega
   have hlm:(f.hd[i].map Rec.enc).length=f.hd[i].length:=by simp
   have hK:=hR (i+1) (by omega) (by omega)
   rw[Aa f.hd ba i ci] at hK;clear hR;have hhe:hE f.hd[i]=[.l (f.hd[i].map Rec.enc)]:=rfl;generalize f.hd[i]=l at *;generalize dY (f.hd.take i) ba=G at *;by_cases cl:ba<=vd l
   ·rw[if_pos cl] at hK;simp only[zA,List.length_cons,List.length_nil,Nat.zero_add,List.map_append,List.map_cons,List.map_nil,hhe] at hK;refine dm ?_ Cx.eq_1 (zT hc) g1 hlm hn1 hn2 hn3 g2 (zT cl) hml;exact hK _ _ bO
   ·rw[if_neg cl] at hK;refine dm ?_ Cx.eq_1 (zT hc) g1 hlm hn1 hn2 hn3 g2 (zF cl);exact hK _ _ bO
  ·have hc:¬ (i:Int)<(f.hd.length:Int):=by omega
   have hil:i=f.hd.length:=by omega
   rw[hil,List.take_length] at *;clear hR;refine dm ?_ Cx.eq_1 Qp.eq_1 (zF hc);simp[zR]
def bw:Boo:=⟨0,0,0,[]⟩
def sV (f:Fw) (m:Mg):Txt:=if m.at_=f.bo.at_∧m.sz=f.bo.sz∧m.su=f.bo.su then f.bo.got else[]
def eb (f:Fw) (m:Mg):Boo:=⟨m.at_,m.sz,m.su,if m.ix=((sV f m).length:Nat) then sV f m++m.da else sV f m⟩
def nB (f:Fw) (b:Boo):Fw × Int:=if(bf f.sto b.at_ b.got).2≠0 then({ f with sto:=(bf f.sto b.at_ b.got).1,bo:=bw },(bf f.sto b.at_ b.got).2) else({ f with sto:=(bf f.sto b.at_ b.got).1,bo:=bw,hd:=dY f.hd b.at_ },0)
def mb (f:Fw) (m:Mg):Fw × Int :=
 if m.at_<=f.sto.next∨m.at_<f.bo.at_ then(f,0) else
 if((eb f m).got.length:Nat)<(eb f m).sz then({ f with bo:=eb f m },0) else
 if(eb f m).sz<((eb f m).got.length:Nat)∨cB (eb f m).got≠(eb f m).su then({ f with bo:=bw },0) else nB f (eb f m)
def HS (f:Fw) (c:Cnf) (m:Mg) (H:Hp):Prop:=H=[.cells (aK f c m)]∨∃ B1 B2 B3 B4,H=[.cells (eF f c m (.sl 5 1 0 f.hd.length)),B1,B2,B3,B4,.arr 1 (f.hd.map hE) 0]
theorem zk {k u:Nat} (f:Fw) (c:Cnf) (m:Mg) (h:okS k u f.sto) (hk:k<=700000) (hu:u<=1000000) (hh:okH f.hd) (hm : -9223372036854775808<=m.at_∧m.at_<9223372036854775808) (hx:f.bo.got.length+m.da.length<=20000) :
  ∃ z,call 38 [.one (.p 0 0)] [.cells (aK f c m)]=some z∧(z.1=vi (mb f m).2∧HS (mb f m).1 c m z.2):=by
 have hgl:(sV f m).length<=f.bo.got.length:=by unfold sV;split <;> simp
 have hbl:(eb f m).got.length<=20000:=by
  unfold eb;simp only;split
  ·rw[zA];omega
  ·omega
 unfold mb;by_cases c1:m.at_<=f.sto.next∨m.at_<f.bo.at_
 ·rw[if_pos c1];apply Bl To rfl;simp only[aK];rcases c1 with c1|c1
  ·refine dm ?_ rN.eq_1 (zT c1);exact⟨_,rfl,by simp[zR,HS,aK]⟩
  ·by_cases c0:m.at_<=f.sto.next
   ·refine dm ?_ rN.eq_1 (zT c0);exact⟨_,rfl,by simp[zR,HS,aK]⟩
   ·refine dm ?_ rN.eq_1 (zF c0) (zT c1);exact⟨_,rfl,by simp[zR,HS,aK]⟩
 ·rw[if_neg c1];simp only[not_or] at c1;obtain⟨c1,c2⟩:=c1;obtain⟨b,hb⟩:∃ b,b=eb f m:=⟨_,rfl⟩;have hb1:b.at_=m.at_:=by rw[hb];rfl
  have hb2:b.sz=m.sz:=by rw[hb];rfl
  have hb3:b.su=m.su:=by rw[hb];rfl
  have hb4:b.got=if m.ix=((sV f m).length:Nat) then sV f m++m.da else sV f m:=by rw[hb];rfl
  rw[<- hb] at hbl ⊢;have q5:=p9 b.got (by omega)
  have hi:=Be { f with bo:=bw } c m h hk hu hh b (by rw[hb1];exact hm) (by omega)
  have heq:jK [0,0,0,2] [zI m.at_,zI m.sz,zW m.su,zS f.bo.got] [zI f.bo.at_,zI f.bo.sz,zW f.bo.su,zS f.bo.got]=some (decide (m.at_=f.bo.at_∧m.sz=f.bo.sz∧m.su=f.bo.su)):=by
   simp only[jK,tQ,if_true];congr 1
   rw[Bool.eq_iff_iff];simp
  unfold sV at hb4 hgl;apply Bl To rfl;simp only[aK];by_cases c3:m.at_=f.bo.at_∧m.sz=f.bo.sz∧m.su=f.bo.su
  ·rw[zT c3] at heq;rw[if_pos c3] at hb4 hgl;by_cases c4:m.ix=((f.bo.got.length:Nat):Int)
   ·rw[if_pos c4] at hb4;have hbe:b=⟨m.at_,m.sz,m.su,f.bo.got++m.da⟩:=by
     obtain⟨b1,b2,b3,b4⟩:=b;simp only at hb1 hb2 hb3 hb4;rw[hb1,hb2,hb3,hb4];try rfl
    clear hb hb1 hb2 hb3 hb4;subst hbe;simp only at q5 hi hbl ⊢;by_cases c5:(((f.bo.got++m.da:Txt).length:Nat):Int)<m.sz
    ·rw[if_pos c5];try simp only[List.length_nil,Int.ofNat_zero,zA] at c5
     refine dm ?_ rN.eq_1 (zF c1) (zF c2) heq (eq_true c4) (zT c5);exact⟨_,rfl,by simp[zR,HS,aK,bw]⟩
    ·rw[if_neg c5];by_cases c6:m.sz<(((f.bo.got++m.da:Txt).length:Nat):Int)
     ·rw[if_pos (.inl c6)];try simp only[List.length_nil,Int.ofNat_zero,zA] at c5 c6
      refine dm ?_ rN.eq_1 (zF c1) (zF c2) heq (eq_true c4) (zF c5) (zT c6);exact⟨_,rfl,by simp[zR,HS,aK,bw]⟩
     ·by_cases c7:cB (f.bo.got++m.da)=m.su
      ·rw[if_neg (by simp only[not_or,ne_eq,Decidable.not_not];exact⟨c6,c7⟩)]
       try simp only[List.length_nil,Int.ofNat_zero,zA] at c5 c6
       unfold nB;simp only;by_cases c8:(bf f.sto m.at_ (f.bo.got++m.da)).2=0
       ·have q6:=hi.2 c8;rw[if_neg (by simp[c8])]
        clear hi;generalize bf f.sto m.at_ (f.bo.got++m.da)=w at *;obtain⟨s,e⟩:=w;simp only[aK,eF,bw,Boo.l] at q6 c8 ⊢;have f6:∀ B1 B2 B3:Box,ak call 65 [.one (.p 0 0),.agg [zI m.at_,zI m.sz,zW m.su,zS (f.bo.got++m.da)]] [.cells (aK { f with bo:=bw } c m),B1,B2,B3]=some (vi 0,[.cells (eF { f with sto:=s,bo:=bw } c m (.sl 5 1 0 (dY f.hd m.at_).length)),B1,B2,B3,.cells [zI m.at_,zI m.sz,zW m.su,zS (f.bo.got++m.da)],.arr 1 ((dY f.hd m.at_).map hE) 0]):=fun B1 B2 B3 =>
         aD (ids:=[0]) rfl rfl rfl q6 rfl
        simp only[aK,eF,bw] at f6;(simp(disch:=first|decide|omega|(intros;exact aN rfl rfl)|simp only[am]) only[gu,rN,zF c1,zF c2,heq,eq_true c4,zF c5,zF c6,↓cf,lH,fj,cu,q5,eq_true c7,f6,go_sem,seval,aO,gc,A.kind,A.xs,bX,A.isN])
        refine⟨_,rfl,by simp[zR],.inr ?_⟩
        simp[zR,eF]
       ·have q6:=hi.1 c8;rw[if_pos c8];clear hi;generalize bf f.sto m.at_ (f.bo.got++m.da)=w at *;obtain⟨s,e⟩:=w;simp only[aK,bw,Boo.l] at q6 c8 ⊢;have f6:∀ B1 B2 B3:Box,ak call 65 [.one (.p 0 0),.agg [zI m.at_,zI m.sz,zW m.su,zS (f.bo.got++m.da)]] [.cells (aK { f with bo:=bw } c m),B1,B2,B3]=some (vi e,[.cells (aK { f with sto:=s,bo:=bw } c m),B1,B2,B3]):=fun B1 B2 B3 =>
         aD (ids:=[0]) rfl rfl rfl q6 rfl
        simp only[aK,eF,bw] at f6;(simp(disch:=first|decide|omega|(intros;exact aN rfl rfl)|simp only[am]) only[gu,rN,zF c1,zF c2,heq,eq_true c4,zF c5,zF c6,↓cf,lH,fj,cu,q5,eq_true c7,f6,go_sem,seval,aO,gc,A.kind,A.xs,bX,A.isN])
        exact⟨_,rfl,by simp[zR,HS,aK,bw]⟩
      ·rw[if_pos (.inr c7)];try simp only[List.length_nil,Int.ofNat_zero,zA] at c5 c6
       (simp(disch:=first|decide|omega|(intros;exact aN rfl rfl)|simp only[am]) only[gu,rN,zF c1,zF c2,heq,eq_true c4,zF c5,zF c6,↓cf,lH,fj,cu,q5,eq_false c7,go_sem,seval,aO,gc,A.kind,A.xs,bX,A.isN])
       exact⟨_,rfl,by simp[zR,HS,aK,bw]⟩
   ·rw[if_neg c4] at hb4;have hbe:b=⟨m.at_,m.sz,m.su,f.bo.got⟩:=by
     obtain⟨b1,b2,b3,b4⟩:=b;simp only at hb1 hb2 hb3 hb4;rw[hb1,hb2,hb3,hb4];try rfl
    clear hb hb1 hb2 hb3 hb4;subst hbe;simp only at q5 hi hbl ⊢;by_cases c5:(((f.bo.got:Txt).length:Nat):Int)<m.sz
    ·rw[if_pos c5];try simp only[List.length_nil,Int.ofNat_zero,zA] at c5
     refine dm ?_ rN.eq_1 (zF c1) (zF c2) heq (eq_false c4) (zT c5);exact⟨_,rfl,by simp[zR,HS,aK,bw]⟩
    ·rw[if_neg c5];by_cases c6:m.sz<(((f.bo.got:Txt).length:Nat):Int)
     ·rw[if_pos (.inl c6)];try simp only[List.length_nil,Int.ofNat_zero,zA] at c5 c6
      refine dm ?_ rN.eq_1 (zF c1) (zF c2) heq (eq_false c4) (zF c5) (zT c6);exact⟨_,rfl,by simp[zR,HS,aK,bw]⟩
     ·by_cases c7:cB f.bo.got=m.su
      ·rw[if_neg (by simp only[not_or,ne_eq,Decidable.not_not];exact⟨c6,c7⟩)]
       try simp only[List.length_nil,Int.ofNat_zero,zA] at c5 c6
       unfold nB;simp only;by_cases c8:(bf f.sto m.at_ f.bo.got).2=0
       ·have q6:=hi.2 c8;rw[if_neg (by simp[c8])]
        clear hi;generalize bf f.sto m.at_ f.bo.got=w at *;obtain⟨s,e⟩:=w;simp only[aK,eF,bw,Boo.l] at q6 c8 ⊢;have f6:∀ B1 B2 B3:Box,ak call 65 [.one (.p 0 0),.agg [zI m.at_,zI m.sz,zW m.su,zS f.bo.got]] [.cells (aK { f with bo:=bw } c m),B1,B2,B3]=some (vi 0,[.cells (eF { f with sto:=s,bo:=bw } c m (.sl 5 1 0 (dY f.hd m.at_).length)),B1,B2,B3,.cells [zI m.at_,zI m.sz,zW m.su,zS f.bo.got],.arr 1 ((dY f.hd m.at_).map hE) 0]):=fun B1 B2 B3 =>
         aD (ids:=[0]) rfl rfl rfl q6 rfl
        simp only[aK,eF,bw] at f6;(simp(disch:=first|decide|omega|(intros;exact aN rfl rfl)|simp only[am]) only[gu,rN,zF c1,zF c2,heq,eq_false c4,zF c5,zF c6,↓cf,lH,fj,cu,q5,eq_true c7,f6,go_sem,seval,aO,gc,A.kind,A.xs,bX,A.isN])
        refine⟨_,rfl,by simp[zR],.inr ?_⟩
        simp[zR,eF]
       ·have q6:=hi.1 c8;rw[if_pos c8];clear hi;generalize bf f.sto m.at_ f.bo.got=w at *;obtain⟨s,e⟩:=w;simp only[aK,bw,Boo.l] at q6 c8 ⊢;have f6:∀ B1 B2 B3:Box,ak call 65 [.one (.p 0 0),.agg [zI m.at_,zI m.sz,zW m.su,zS f.bo.got]] [.cells (aK { f with bo:=bw } c m),B1,B2,B3]=some (vi e,[.cells (aK { f with sto:=s,bo:=bw } c m),B1,B2,B3]):=fun B1 B2 B3 =>
         aD (ids:=[0]) rfl rfl rfl q6 rfl
        simp only[aK,eF,bw] at f6;(simp(disch:=first|decide|omega|(intros;exact aN rfl rfl)|simp only[am]) only[gu,rN,zF c1,zF c2,heq,eq_false c4,zF c5,zF c6,↓cf,lH,fj,cu,q5,eq_true c7,f6,go_sem,seval,aO,gc,A.kind,A.xs,bX,A.isN])
        exact⟨_,rfl,by simp[zR,HS,aK,bw]⟩
      ·rw[if_pos (.inr c7)];try simp only[List.length_nil,Int.ofNat_zero,zA] at c5 c6
       (simp(disch:=first|decide|omega|(intros;exact aN rfl rfl)|simp only[am]) only[gu,rN,zF c1,zF c2,heq,eq_false c4,zF c5,zF c6,↓cf,lH,fj,cu,q5,eq_false c7,go_sem,seval,aO,gc,A.kind,A.xs,bX,A.isN])
       exact⟨_,rfl,by simp[zR,HS,aK,bw]⟩
  ·rw[zF c3] at heq;rw[if_neg c3] at hb4 hgl;simp only[List.length_nil,Int.ofNat_zero,List.nil_append] at hb4;by_cases c4:m.ix=0
   ·rw[if_pos c4] at hb4;have hbe:b=⟨m.at_,m.sz,m.su,m.da⟩:=by
     obtain⟨b1,b2,b3,b4⟩:=b;simp only at hb1 hb2 hb3 hb4;rw[hb1,hb2,hb3,hb4];try rfl
    clear hb hb1 hb2 hb3 hb4;subst hbe;simp only at q5 hi hbl ⊢;by_cases c5:(((m.da:Txt).length:Nat):Int)<m.sz
    ·rw[if_pos c5];try simp only[List.length_nil,Int.ofNat_zero,zA] at c5
     refine dm ?_ rN.eq_1 (zF c1) (zF c2) heq (eq_true c4) (zT c5);exact⟨_,rfl,by simp[zR,HS,aK,bw]⟩
    ·rw[if_neg c5];by_cases c6:m.sz<(((m.da:Txt).length:Nat):Int)
     ·rw[if_pos (.inl c6)];try simp only[List.length_nil,Int.ofNat_zero,zA] at c5 c6
      refine dm ?_ rN.eq_1 (zF c1) (zF c2) heq (eq_true c4) (zF c5) (zT c6);exact⟨_,rfl,by simp[zR,HS,aK,bw]⟩
     ·by_cases c7:cB m.da=m.su
      ·rw[if_neg (by simp only[not_or,ne_eq,Decidable.not_not];exact⟨c6,c7⟩)]
       try simp only[List.length_nil,Int.ofNat_zero,zA] at c5 c6
       unfold nB;simp only;by_cases c8:(bf f.sto m.at_ m.da).2=0
       ·have q6:=hi.2 c8;rw[if_neg (by simp[c8])]
        clear hi;generalize bf f.sto m.at_ m.da=w at *;obtain⟨s,e⟩:=w;simp only[aK,eF,bw,Boo.l] at q6 c8 ⊢;have f6:∀ B1 B2 B3:Box,ak call 65 [.one (.p 0 0),.agg [zI m.at_,zI m.sz,zW m.su,zS m.da]] [.cells (aK { f with bo:=bw } c m),B1,B2,B3]=some (vi 0,[.cells (eF { f with sto:=s,bo:=bw } c m (.sl 5 1 0 (dY f.hd m.at_).length)),B1,B2,B3,.cells [zI m.at_,zI m.sz,zW m.su,zS m.da],.arr 1 ((dY f.hd m.at_).map hE) 0]):=fun B1 B2 B3 =>
         aD (ids:=[0]) rfl rfl rfl q6 rfl
        simp only[aK,eF,bw] at f6;(simp(disch:=first|decide|omega|(intros;exact aN rfl rfl)|simp only[am]) only[gu,rN,zF c1,zF c2,heq,eq_true c4,zF c5,zF c6,↓cf,lH,fj,cu,q5,eq_true c7,f6,go_sem,seval,aO,gc,A.kind,A.xs,bX,A.isN])
        refine⟨_,rfl,by simp[zR],.inr ?_⟩
        simp[zR,eF]
       ·have q6:=hi.1 c8;rw[if_pos c8];clear hi;generalize bf f.sto m.at_ m.da=w at *;obtain⟨s,e⟩:=w;simp only[aK,bw,Boo.l] at q6 c8 ⊢;have f6:∀ B1 B2 B3:Box,ak call 65 [.one (.p 0 0),.agg [zI m.at_,zI m.sz,zW m.su,zS m.da]] [.cells (aK { f with bo:=bw } c m),B1,B2,B3]=some (vi e,[.cells (aK { f with sto:=s,bo:=bw } c m),B1,B2,B3]):=fun B1 B2 B3 =>
         aD (ids:=[0]) rfl rfl rfl q6 rfl
        simp only[aK,eF,bw] at f6;(simp(disch:=first|decide|omega|(intros;exact aN rfl rfl)|simp only[am]) only[gu,rN,zF c1,zF c2,heq,eq_true c4,zF c5,zF c6,↓cf,lH,fj,cu,q5,eq_true c7,f6,go_sem,seval,aO,gc,A.kind,A.xs,bX,A.isN])
        exact⟨_,rfl,by simp[zR,HS,aK,bw]⟩
      ·rw[if_pos (.inr c7)];try simp only[List.length_nil,Int.ofNat_zero,zA] at c5 c6
       (simp(disch:=first|decide|omega|(intros;exact aN rfl rfl)|simp only[am]) only[gu,rN,zF c1,zF c2,heq,eq_true c4,zF c5,zF c6,↓cf,lH,fj,cu,q5,eq_false c7,go_sem,seval,aO,gc,A.kind,A.xs,bX,A.isN])
       exact⟨_,rfl,by simp[zR,HS,aK,bw]⟩
   ·rw[if_neg c4] at hb4;have hbe:b=⟨m.at_,m.sz,m.su,[]⟩:=by
     obtain⟨b1,b2,b3,b4⟩:=b;simp only at hb1 hb2 hb3 hb4;rw[hb1,hb2,hb3,hb4];try rfl
    clear hb hb1 hb2 hb3 hb4;subst hbe;simp only at q5 hi hbl ⊢;by_cases c5:((([]:Txt).length:Nat):Int)<m.sz
    ·rw[if_pos c5];try simp only[List.length_nil,Int.ofNat_zero,zA] at c5
     refine dm ?_ rN.eq_1 (zF c1) (zF c2) heq (eq_false c4) (zT c5);exact⟨_,rfl,by simp[zR,HS,aK,bw]⟩
    ·rw[if_neg c5];by_cases c6:m.sz<((([]:Txt).length:Nat):Int)
     ·rw[if_pos (.inl c6)];try simp only[List.length_nil,Int.ofNat_zero,zA] at c5 c6
      refine dm ?_ rN.eq_1 (zF c1) (zF c2) heq (eq_false c4) (zF c5) (zT c6);exact⟨_,rfl,by simp[zR,HS,aK,bw]⟩
     ·by_cases c7:cB []=m.su
      ·rw[if_neg (by simp only[not_or,ne_eq,Decidable.not_not];exact⟨c6,c7⟩)]
       try simp only[List.length_nil,Int.ofNat_zero,zA] at c5 c6
       unfold nB;simp only;by_cases c8:(bf f.sto m.at_ []).2=0
       ·have q6:=hi.2 c8;rw[if_neg (by simp[c8])]
        clear hi;generalize bf f.sto m.at_ []=w at *;obtain⟨s,e⟩:=w;simp only[aK,eF,bw,Boo.l] at q6 c8 ⊢;have f6:∀ B1 B2 B3:Box,ak call 65 [.one (.p 0 0),.agg [zI m.at_,zI m.sz,zW m.su,.d (.s [])]] [.cells (aK { f with bo:=bw } c m),B1,B2,B3]=some (vi 0,[.cells (eF { f with sto:=s,bo:=bw } c m (.sl 5 1 0 (dY f.hd m.at_).length)),B1,B2,B3,.cells [zI m.at_,zI m.sz,zW m.su,.d (.s [])],.arr 1 ((dY f.hd m.at_).map hE) 0]):=fun B1 B2 B3 =>
         aD (ids:=[0]) rfl rfl rfl q6 rfl
        simp only[aK,eF,bw] at f6;(simp(disch:=first|decide|omega|(intros;exact aN rfl rfl)|simp only[am]) only[gu,rN,zF c1,zF c2,heq,eq_false c4,zF c5,zF c6,↓cf,lH,fj,cu,q5,eq_true c7,f6,go_sem,seval,aO,gc,A.kind,A.xs,bX,A.isN])
        refine⟨_,rfl,by simp[zR],.inr ?_⟩
        simp[zR,eF]
       ·have q6:=hi.1 c8;rw[if_pos c8];clear hi;generalize bf f.sto m.at_ []=w at *;obtain⟨s,e⟩:=w;simp only[aK,bw,Boo.l] at q6 c8 ⊢;have f6:∀ B1 B2 B3:Box,ak call 65 [.one (.p 0 0),.agg [zI m.at_,zI m.sz,zW m.su,.d (.s [])]] [.cells (aK { f with bo:=bw } c m),B1,B2,B3]=some (vi e,[.cells (aK { f with sto:=s,bo:=bw } c m),B1,B2,B3]):=fun B1 B2 B3 =>
         aD (ids:=[0]) rfl rfl rfl q6 rfl
        simp only[aK,eF,bw] at f6;(simp(disch:=first|decide|omega|(intros;exact aN rfl rfl)|simp only[am]) only[gu,rN,zF c1,zF c2,heq,eq_false c4,zF c5,zF c6,↓cf,lH,fj,cu,q5,eq_true c7,f6,go_sem,seval,aO,gc,A.kind,A.xs,bX,A.isN])
        exact⟨_,rfl,by simp[zR,HS,aK,bw]⟩
      ·rw[if_pos (.inr c7)];try simp only[List.length_nil,Int.ofNat_zero,zA] at c5 c6
       (simp(disch:=first|decide|omega|(intros;exact aN rfl rfl)|simp only[am]) only[gu,rN,zF c1,zF c2,heq,eq_false c4,zF c5,zF c6,↓cf,lH,fj,cu,q5,eq_false c7,go_sem,seval,aO,gc,A.kind,A.xs,bX,A.isN])
       exact⟨_,rfl,by simp[zR,HS,aK,bw]⟩
def Lo (f:Fw) (m:Mg):Int:=if f.hi<m.hi then m.hi else f.hi
def o7 (f:Fw) (m:Mg):Int:=if(m.rs.length:Nat)<f.sto.next-m.at_ then(m.rs.length:Nat) else f.sto.next-m.at_
def dR (f:Fw) (m:Mg):List Rec:=m.rs.drop (o7 f m).toNat
def fU (f:Fw) (m:Mg):List Rec × List (List Rec):=gp f.hd (f.sto.next+((dR f m).length:Nat)) []
def pI (f:Fw) (c:Cnf) (m:Mg):Fw × Int :=
 if m.rs.length=0 then({ f with hi:=Lo f m },0) else
 if f.sto.next<m.at_ then({ f with hi:=Lo f m,hd:=E4 f.hd m.rs f.sto.next c.held (c.window-c.batch) },0) else
  ({ f with hi:=Lo f m,hd:=(fU f m).2,sto:=(dW f.sto c (dR f m++(fU f m).1)).1 },(dW f.sto c (dR f m++(fU f m).1)).2)
theorem Hq {F:Nat} {rows:List (List D)} {e:Int} {f1 f2:Fw} {c:Cnf} {m:Mg} (h:call F [.one (.p 0 0),vl rows] [.cells (aK f1 c m)]=some (vi e,[.cells (aK f2 c m)])):ak call F [.one (.p 0 0),vl rows] [.cells (aK f1 c m)]=some (vi e,[.cells (aK f2 c m)]) :=
 aD (ids:=[0]) rfl rfl rfl h rfl
theorem xz {k u n:Nat} (f:Fw) (c:Cnf) (m:Mg) (hg:Go1 k u n f.sto) (hh:okH f.hd) (hb:m.rs.length=0∨okB m.rs) (hm:0<=m.at_∧m.at_<=1099511627776) (hnx:f.sto.next<=1000000) (hseg:1<=c.seg)
  (hw:(0<=c.window∧c.window<=1000000)∧(0<=c.batch∧c.batch<=1000000)) (hl:(dR f m++(fU f m).1).length<=100) (hr:∀ r∈dR f m++(fU f m).1,r.ok) (hk:k<=100000) (hu:u<=700000) (hn:n<=900) :
  call 37 [.one (.p 0 0)] [.cells (aK f c m)]=some (vi (pI f c m).2,[.cells (aK (pI f c m).1 c m)]):=by
 have hn0:=hg.ok.next;unfold pI;by_cases c1:m.rs.length=0
 ·rw[if_pos c1];apply ae Sa rfl;simp only[aK,Lo];refine dm ?_ Qo.eq_1 c1 @zM;simp[zR]
 ·rw[if_neg c1];have hob:=hb.resolve_left c1;have hol:=hob.len;have c1':¬ ((m.rs.length:Nat):Int)=0:=by omega
  by_cases c2:f.sto.next<m.at_
  ·rw[if_pos c2];have q:=G0 f.hd hh m.rs hb f.sto.next c.held (c.window-c.batch);apply ae Sa rfl;simp only[aK,Lo];generalize E4 f.hd m.rs f.sto.next c.held (c.window-c.batch)=G at *;refine dm ?_ Qo.eq_1 (eq_false c1') (zT c2) q @zM;simp[zR]
  ·rw[if_neg c2];have hsk:0<=o7 f m∧o7 f m<=(m.rs.length:Nat):=by unfold o7;split <;> omega
   have hdr:List.drop (o7 f m).toNat (m.rs.map Rec.enc)=(dR f m).map Rec.enc:=by unfold dR;rw[List.map_drop]
   have hnl:(dR f m).length<=100:=by unfold dR;rw[zH];omega
   have hsf:(if(m.rs.length:Nat)<f.sto.next-m.at_ then((m.rs.length:Nat):Int) else f.sto.next-m.at_)=o7 f m:=rfl
   have q2:=D0 f.hd hh (f.sto.next+((dR f m).length:Nat)) (by omega)
   have hokr:aQ 3 (m.rs.map Rec.enc)=true:=aV Rec.len _;have hmt:gp f.hd (f.sto.next+((dR f m).length:Nat)) []=fU f m:=rfl;rw[hmt] at q2;have q3:=Hq (vY { f with hi:=Lo f m,hd:=(fU f m).2 } c m hg (dR f m++(fU f m).1) (by omega) hr hseg (by omega) (by omega) (by omega))
   have hht:(if f.hi<m.hi then m.hi else f.hi)=Lo f m:=rfl
   rw[zA] at hl;generalize Lo f m=hiv at *;generalize o7 f m=sk at *;generalize dR f m=nw at *;generalize fU f m=mo at *;obtain⟨mo1,mo2⟩:=mo;simp only at q2 q3 hl ⊢;generalize dW f.sto c (nw++mo1)=z at *;obtain⟨s,e⟩:=z;simp only[aK,List.map_append] at q3 ⊢;have hok1:aQ 3 (nw.map Rec.enc)=true:=aV Rec.len _;have hok2:aQ 3 (mo1.map Rec.enc)=true:=aV Rec.len _;have htk:List.take nw.length (nw.map Rec.enc)=nw.map Rec.enc:=zL (by simp)
   have hln:(nw.map Rec.enc).length=nw.length:=by simp
   apply ae Sa rfl;refine dm ?_ Qo.eq_1 hht (eq_false c1') (zF c2) hsf hokr hdr hln q2 hok1 hok2 (And.intro htk (And.intro q3 @zM));simp[zR]
def dH (f:Fw) (c:Cnf):Fw:={ f with wa:=c.beat }
def dA (f:Fw) (c:Cnf) (m:Mg):Fw × Int:=if m.kd=2 then pI (dH f c) c m else mb (dH f c) m
def sx (f g:Fw):Bool:=decide (g.sto.next≠f.sto.next) || decide ((f.bo.got.length:Int)<(g.bo.got.length:Nat))
def qE (f:Fw) (r:Fw × Int):V:=.tup [(true,r.1.l),(false,[zB (sx f r.1)]),(false,[zI r.2])]
theorem A7 {k u n:Nat} (f:Fw) (c:Cnf) (m:Mg) (hR:call 36 [.agg m.l] []=some (vb true,[])) (h1:m.kd=2) (h2:m.tt=f.id_) (h3:m.pe=f.ic) (hg:Go1 k u n f.sto) (hh:okH f.hd) (hb:m.rs.length=0∨okB m.rs) (hm:0<=m.at_∧m.at_<=1099511627776) (hnx:f.sto.next<=1000000) (hseg:1<=c.seg)
  (hw:(0<=c.window∧c.window<=1000000)∧(0<=c.batch∧c.batch<=1000000)) (hl:(dR f m++(fU f m).1).length<=100) (hr:∀ r∈dR f m++(fU f m).1,r.ok) (hk:k<=100000) (hu:u<=700000) (hn:n<=900) :
  call 12 [.agg f.l,.agg c.l,.agg m.l] []=some (qE f (dA f c m),[]):=by
 have q:=xz (dH f c) c m hg hh hb hm hnx hseg hw hl hr hk hu hn;unfold dA;rw[if_pos h1];obtain⟨Z,hZ⟩:∃ Z,Z=pI (dH f c) c m:=⟨_,rfl⟩;rw[<- hZ] at q ⊢;obtain⟨g,e⟩:=Z;clear hZ;unfold qE sx;have q2:∀ B0 B1 B2 B3:Box,ak call 37 [.one (.p 4 0)] [B0,B1,B2,B3,.cells (aK (dH f c) c m)]=some (vi e,[B0,B1,B2,B3,.cells (aK g c m)]):=fun B0 B1 B2 B3 =>
  aD (ids:=[4]) rfl rfl rfl q rfl
 simp only[aK,dH] at q2;simp only[Fw.l,Cnf.l,Mg.l,h1,h2,h3] at hR q2 ⊢;clear q;apply ae QK rfl;by_cases c1:g.sto.next=f.sto.next
 ·by_cases c2:((f.bo.got.length:Nat):Int)<(g.bo.got.length:Nat)
  ·refine dm ?_ IG.eq_1 hR q2 (eq_true c1) (zT c2);try simp[zR,c1,c2]
  ·refine dm ?_ IG.eq_1 hR q2 (eq_true c1) (zF c2);try simp[zR,c1,c2]
 ·refine dm ?_ IG.eq_1 hR q2 (eq_false c1);try simp[zR,c1]
theorem Bk {k u:Nat} (f:Fw) (c:Cnf) (m:Mg) (hR:call 36 [.agg m.l] []=some (vb true,[])) (h1:m.kd=3) (h2:m.tt=f.id_) (h3:m.pe=f.ic) (h:okS k u f.sto) (hk:k<=700000) (hu:u<=1000000) (hh:okH f.hd) (hm : -9223372036854775808<=m.at_∧m.at_<9223372036854775808) (hx:f.bo.got.length+m.da.length<=20000) (hlen:(mb (dH f c) m).1.hd.length<=1000) :
  call 12 [.agg f.l,.agg c.l,.agg m.l] []=some (qE f (dA f c m),[]):=by
 obtain⟨⟨v,H⟩,q,hv,hs⟩:=zk (dH f c) c m h hk hu hh hm hx;unfold dA;rw[if_neg (by omega)]
 obtain⟨Z,hZ⟩:∃ Z,Z=mb (dH f c) m:=⟨_,rfl⟩;rw[<- hZ] at hv hs hlen ⊢;obtain⟨g,e⟩:=Z;clear hZ;simp only at hv hs hlen;subst hv;unfold qE sx;rcases hs with rfl|⟨B1,B2,B3,B4,rfl⟩
 ·have q2:∀ B0 B1 B2 B3:Box,ak call 38 [.one (.p 4 0)] [B0,B1,B2,B3,.cells (aK (dH f c) c m)]=some (vi e,[B0,B1,B2,B3,.cells (aK g c m)]):=fun B0 B1 B2 B3 =>
   aD (ids:=[4]) rfl rfl rfl q rfl
  simp only[aK,dH] at q2;simp only[Fw.l,Cnf.l,Mg.l,h1,h2,h3] at hR q2 ⊢;clear q;apply ae QK rfl;by_cases c1:g.sto.next=f.sto.next
  ·by_cases c2:((f.bo.got.length:Nat):Int)<(g.bo.got.length:Nat)
   ·refine dm ?_ IG.eq_1 hR q2 (eq_true c1) (zT c2);try simp[zR,c1,c2]
   ·refine dm ?_ IG.eq_1 hR q2 (eq_true c1) (zF c2);try simp[zR,c1,c2]
  ·refine dm ?_ IG.eq_1 hR q2 (eq_false c1);try simp[zR,c1]
 ·obtain⟨q2,hq2⟩:∃ C:List Box,C=[B1,B2,B3,B4].map (Box.ren fun j=>if j<1 then[4][j]? else some (5+(j-1))):=⟨_,rfl⟩
  obtain⟨C1,C2,C3,C4,rfl⟩:∃ C1 C2 C3 C4,q2=[C1,C2,C3,C4]:=⟨_,_,_,_,hq2⟩;simp only[List.map_cons,List.map_nil,List.cons.injEq,and_true] at hq2;obtain⟨e1,e2,e3,e4⟩:=hq2;have q2:∀ B0 B1 B2 B3:Box,ak call 38 [.one (.p 4 0)] [B0,B1,B2,B3,.cells (aK (dH f c) c m)]=some (vi e,[B0,B1,B2,B3,.cells [zI g.id_,zI g.ic,.d (.l (g.sto.disk.files.map Fil.enc)),zI g.sto.disk.cap,zB g.sto.disk.armed,zI g.sto.disk.left,zB g.sto.disk.down,zI g.sto.ver,.d (.l (g.sto.segs.map Seg.enc)),zI g.sto.next,zI g.sto.sure,zI g.sto.size,zW g.sto.sum,zI g.sq,zI g.wa,.sl 9 1 0 g.hd.length,zI g.bo.at_,zI g.bo.sz,zW g.bo.su,zS g.bo.got,zI g.hi,zI c.nodes,zI c.seg,zI c.keep,zI c.count,zI c.batch,zI c.most,zI c.window,zI c.held,zI c.chunk,zI c.pending,zI c.links,zI c.beat,zI c.retry,zI c.lease,zI c.top,zI m.kd,zI m.fr,zI m.tt,zI m.ic,zI m.pe,zI m.sq,zI m.at_,zI m.wi,zI m.hi,zI m.wa,zI m.ix,zI m.sz,zW m.su,zS m.da,.d (.l (m.rs.map Rec.enc))],C1,C2,C3,C4,.arr 1 (g.hd.map hE) 0]):=fun B0 B1 B2 B3=>by
   rw[e1,e2,e3,e4];exact aD (ids:=[4]) rfl rfl rfl q rfl
  simp only[aK,dH] at q2;simp only[Fw.l,Cnf.l,Mg.l,h1,h2,h3] at hR q2 ⊢;clear q;have htk:List.take g.hd.length (g.hd.map hE)=g.hd.map hE:=zL (by simp)
  have hhl:(g.hd.map hE).length=g.hd.length:=by simp
  clear e1 e2 e3 e4;apply ae QK rfl;by_cases c1:g.sto.next=f.sto.next
  ·by_cases c2:((f.bo.got.length:Nat):Int)<(g.bo.got.length:Nat)
   ·(simp(disch:=first|decide|omega|(intros;exact aN rfl rfl)|simp only[am]) only[gu,IG,hR,q2,eq_true c1,zT c2,htk,hhl,↓mL,ww,go_sem,seval,aO,gc,A.kind,A.xs,bX,A.isN])
    try simp[zR,c1,c2]
   ·(simp(disch:=first|decide|omega|(intros;exact aN rfl rfl)|simp only[am]) only[gu,IG,hR,q2,eq_true c1,zF c2,htk,hhl,↓mL,ww,go_sem,seval,aO,gc,A.kind,A.xs,bX,A.isN])
    try simp[zR,c1,c2]
  ·(simp(disch:=first|decide|omega|(intros;exact aN rfl rfl)|simp only[am]) only[gu,IG,hR,q2,eq_false c1,htk,hhl,↓mL,ww,go_sem,seval,aO,gc,A.kind,A.xs,bX,A.isN])
   try simp[zR,c1]
def vE (k0 k1 k2 k3 k4 k5 k6 k7 k8 k9 k10 k11:Nat):Cnf:={ nodes:=1+(k0 % 4:Nat),seg:=20+(k1 % 80:Nat),keep:=(k2:Nat),count:=1+(k3 % 40:Nat),batch:=100+(k4 % 100:Nat),most:=1+(k5 % 4:Nat),window:=100+((k4 % 100:Nat):Int)+(k5:Nat),held:=(k6 % 4:Nat),chunk:=16+(k7 % 40:Nat),pending:=1+(k8 % 8:Nat),links:=1+(k9 % 6:Nat),beat:=1+(k10 % 3:Nat),retry:=1+((k10 % 3:Nat):Int)+(k10 % 5:Nat),lease:=1+(k11 % 20:Nat),top:=if 240<k8 then(if k3 % 30=0 then 1 else(k3 % 30:Nat)) else 1099511627776 }
def Lu (k0 k1 k2 k3 k4 k5 k6 k7 k8 k9 k10 k11:Nat):List L:=[zU (k0:Nat),zU (k1:Nat),zU (k2:Nat),zU (k3:Nat),zU (k4:Nat),zU (k5:Nat),zU (k6:Nat),zU (k7:Nat),zU (k8:Nat),zU (k9:Nat),zU (k10:Nat),zU (k11:Nat)]
theorem gw (a b:Nat) (hb:0<b):((a:Nat):Int).tmod ((b:Nat):Int)=((a % b:Nat):Int):=by rw[Int.tmod_eq_emod_of_nonneg (by omega)];omega
theorem uR (k0 k1 k2 k3 k4 k5 k6 k7 k8 k9 k10 k11:Nat) (h0:k0<256) (h1:k1<256) (h2:k2<256) (h3:k3<256) (h4:k4<256) (h5:k5<256) (h6:k6<256) (h7:k7<256) (h8:k8<256) (h9:k9<256) (h10:k10<256) (h11:k11<256):call 8 [.agg (Lu k0 k1 k2 k3 k4 k5 k6 k7 k8 k9 k10 k11)] []=some (.agg (vE k0 k1 k2 k3 k4 k5 k6 k7 k8 k9 k10 k11).l,[]):=by
 have r0:((k0:Nat):Int).tmod 4=((k0 % 4:Nat):Int):=gw k0 4 (by decide)
 have r1:((k1:Nat):Int).tmod 80=((k1 % 80:Nat):Int):=gw k1 80 (by decide)
 have r2:((k3:Nat):Int).tmod 40=((k3 % 40:Nat):Int):=gw k3 40 (by decide)
 have r3:((k4:Nat):Int).tmod 100=((k4 % 100:Nat):Int):=gw k4 100 (by decide)
 have r4:((k5:Nat):Int).tmod 4=((k5 % 4:Nat):Int):=gw k5 4 (by decide)
 have r5:((k6:Nat):Int).tmod 4=((k6 % 4:Nat):Int):=gw k6 4 (by decide)
 have r6:((k7:Nat):Int).tmod 40=((k7 % 40:Nat):Int):=gw k7 40 (by decide)
 have r7:((k8:Nat):Int).tmod 8=((k8 % 8:Nat):Int):=gw k8 8 (by decide)
 have r8:((k9:Nat):Int).tmod 6=((k9 % 6:Nat):Int):=gw k9 6 (by decide)
 have r9:((k10:Nat):Int).tmod 3=((k10 % 3:Nat):Int):=gw k10 3 (by decide)
 have r10:((k10:Nat):Int).tmod 5=((k10 % 5:Nat):Int):=gw k10 5 (by decide)
 have r11:((k11:Nat):Int).tmod 20=((k11 % 20:Nat):Int):=gw k11 20 (by decide)
 have r12:((k3:Nat):Int).tmod 30=((k3 % 30:Nat):Int):=gw k3 30 (by decide)
 have e:(vE k0 k1 k2 k3 k4 k5 k6 k7 k8 k9 k10 k11).l=[zI (1+(k0 % 4:Nat)),zI (20+(k1 % 80:Nat)),zI (k2:Nat),zI (1+(k3 % 40:Nat)),zI (100+(k4 % 100:Nat)),zI (1+(k5 % 4:Nat)),zI (100+((k4 % 100:Nat):Int)+(k5:Nat)),zI (k6 % 4:Nat),zI (16+(k7 % 40:Nat)),zI (1+(k8 % 8:Nat)),zI (1+(k9 % 6:Nat)),zI (1+(k10 % 3:Nat)),zI (1+((k10 % 3:Nat):Int)+(k10 % 5:Nat)),zI (1+(k11 % 20:Nat)),zI (if 240<k8 then(if k3 % 30=0 then 1 else(k3 % 30:Nat)) else 1099511627776)]:=rfl
 rw[e];unfold Lu;have l0:k0 % 4<4:=Nat.mod_lt _ (by decide)
 have l1:k1 % 80<80:=Nat.mod_lt _ (by decide)
 have l2:k3 % 40<40:=Nat.mod_lt _ (by decide)
 have l3:k4 % 100<100:=Nat.mod_lt _ (by decide)
 have l4:k5 % 4<4:=Nat.mod_lt _ (by decide)
 have l5:k6 % 4<4:=Nat.mod_lt _ (by decide)
 have l6:k7 % 40<40:=Nat.mod_lt _ (by decide)
 have l7:k8 % 8<8:=Nat.mod_lt _ (by decide)
 have l8:k9 % 6<6:=Nat.mod_lt _ (by decide)
 have l9:k10 % 3<3:=Nat.mod_lt _ (by decide)
 have l10:k10 % 5<5:=Nat.mod_lt _ (by decide)
 have l11:k11 % 20<20:=Nat.mod_lt _ (by decide)
 have l12:k3 % 30<30:=Nat.mod_lt _ (by decide)
 apply ae s8 rfl;by_cases c:240<k8
 ·have c':(240:Int)<(k8:Nat):=by omega
  rw[if_pos c];by_cases c2:k3 % 30=0
  ·rw[if_pos c2];have c3:¬ (1:Int)<((k3 % 30:Nat):Int):=by omega
   have c4:(if((k3 % 30:Nat):Int)<1 then(1:Int) else((k3 % 30:Nat):Int))=1:=by rw[if_pos (by omega)]
   refine bC ?_ a8.eq_1 r0 r1 r2 r3 r4 r5 r6 r7 r8 r9 (And.intro r10 (And.intro r11 (And.intro r12 (And.intro (zT c') c4))));try simp[trim]
  ·rw[if_neg c2];have c4:(if((k3 % 30:Nat):Int)<1 then(1:Int) else((k3 % 30:Nat):Int))=((k3 % 30:Nat):Int):=by rw[if_neg (by omega)]
   refine bC ?_ a8.eq_1 r0 r1 r2 r3 r4 r5 r6 r7 r8 r9 (And.intro r10 (And.intro r11 (And.intro r12 (And.intro (zT c') c4))));try simp[trim]
 ·have c':¬ (240:Int)<(k8:Nat):=by omega
  rw[if_neg c];refine bC ?_ a8.eq_1 r0 r1 r2 r3 r4 r5 r6 r7 r8 r9 (And.intro r10 (And.intro r11 (And.intro r12 (zF c'))));try simp[trim]
def bG (data:List Txt):List Rec:=data.mapIdx fun i d=>⟨(i:Nat),(i:Nat),d⟩
def eX (n:Txt):List D:=[.s n]
theorem kh (data:List Txt):(bG data).length=data.length:=by simp[bG]
theorem BP (data:List Txt) (i:Nat) (h:i<data.length):(bG data).take (i+1)=(bG data).take i++[⟨(i:Nat),(i:Nat),data[i]⟩]:=by
 rw[zO (by rw[kh];exact h)]
 simp[bG]
theorem n5 (data:List Txt) (hl:data.length<=1000):call 9 [vl (data.map eX)] []=some (vl ((bG data).map Rec.enc),[]):=by
 apply ae s9 rfl;refine bC ?_ a9.eq_1;refine ax (m:=0) (σ:=Nat) (fun i=>data.length-i) (fun i=>i<=data.length) (fun i=>[vl (data.map eX),V.one (.sl 0 3 0 ((bG data).take i).length),vi i]) (fun i=>[.arr 3 (((bG data).take i).map Rec.enc) 0])
  (fun _=>(vl ((bG data).map Rec.enc),[])) ?_ 0 (zP _) _ _ bO
 intro i h1 R hR;by_cases c:i<data.length
 ·have hc:(i:Int)<(data.length:Int):=by omega
  have g1:(data.map eX)[i]?=some [.s data[i]]:=by rw[zG,zE c];rfl
  have hK:=hR (i+1) (by omega) (by omega)
  have hml:(((bG data).take i).map Rec.enc).length=((bG data).take i).length:=by simp
  have hil:((bG data).take i).length<=1000:=by rw[zQ,kh];omega
  rw[BP data i c] at hK;simp only[zA,List.length_cons,List.length_nil,Nat.zero_add,List.map_append,List.map_cons,List.map_nil,Rec.enc] at hK;clear hR;generalize (bG data).take i=Q at *;generalize data[i]=d at *;refine bC ?_ MS.eq_1 (zT hc) g1 hml @zM;exact hK _ _ bO
 ·have hc:¬ (i:Int)<(data.length:Int):=by omega
  have hil:i=data.length:=by omega
  have ht:(bG data).take i=bG data:=zL (by rw[kh];omega)
  rw[ht];have htk:List.take (bG data).length ((bG data).map Rec.enc)=(bG data).map Rec.enc:=zL (by simp)
  have hml:((bG data).map Rec.enc).length=(bG data).length:=by simp
  refine bC ?_ MS.eq_1 a9.eq_1 (zF hc) htk hml @zM;try simp[trim]
def pP (id_ ic:Int) (s:Sto) (c:Cnf):Fw:=⟨id_,ic,s,0,c.beat,[],bw,0⟩
theorem tE (id_ ic:Int) (s:Sto) (c:Cnf):call 11 [vi id_,vi ic,.agg s.l,.agg c.l] []=some (.agg (pP id_ ic s c).l,[]):=by
 have hcell:s.l=[.d (.l (s.disk.files.map Fil.enc)),zI s.disk.cap,zB s.disk.armed,zI s.disk.left,zB s.disk.down,zI s.ver,.d (.l (s.segs.map Seg.enc)),zI s.next,zI s.sure,zI s.size,zW s.sum]:=rfl;rw[hcell];simp only[pP,Fw.l,Cnf.l,bw,List.map_nil];apply ae UF rfl;refine bC ?_ S4.eq_1;try simp[trim]
def oL (f:Fw) (c:Cnf):Fw:={ f with sq:=f.sq+1,wa:=if c.retry<2*f.wa then c.retry else 2*f.wa }
def GA (f:Fw) (c:Cnf):Mg:=⟨1,f.id_,0,f.ic,0,f.sq+1,f.sto.next,c.window-(bytH f.hd:Int),0,f.bo.at_,(f.bo.got.length:Nat),0,0,[],[]⟩
theorem Dp (f:Fw) (c:Cnf) (hh:okH f.hd) (h1:0<=f.sq∧f.sq<=1000000) (h2:0<=f.wa∧f.wa<=1000000) (h3:0<=c.window∧c.window<=1000000):call 22 [.agg f.l,.agg c.l] []=some (.tup [(true,(oL f c).l),(true,(GA f c).l)],[]):=by
 have q:=rj f.hd hh;have hbl:=oE f.hd hh.all;have hhl:=hh.len;have e:(if c.retry<2*f.wa then c.retry else 2*f.wa)=(oL f c).wa:=rfl
 have e2:(oL f c).l=[zI f.id_,zI f.ic,.d (.l (f.sto.disk.files.map Fil.enc)),zI f.sto.disk.cap,zB f.sto.disk.armed,zI f.sto.disk.left,zB f.sto.disk.down,zI f.sto.ver,.d (.l (f.sto.segs.map Seg.enc)),zI f.sto.next,zI f.sto.sure,zI f.sto.size,zW f.sto.sum,zI (f.sq+1),.d (.i .i64 (oL f c).wa),.d (.l (f.hd.map hE)),zI f.bo.at_,zI f.bo.sz,zW f.bo.su,zS f.bo.got,zI f.hi]:=rfl;rw[e2];generalize (oL f c).wa=w at *;simp only[GA,Fw.l,Cnf.l,Mg.l,List.map_nil];generalize bytH f.hd=bh at *;apply ae Tz rfl;refine dm ?_ Tg.eq_1 e q;try simp[trim]
def eN (n:Int):List D:=[.i .i64 n]
theorem iX (most:Int) (l:List Int) (hl:l.length<=1000) (h:∀ x∈l,0<=x∧x<=most):call 59 [vi most,vl (l.map eN)] []=some (vb true,[]):=by
 apply ae T4 rfl;refine bC ?_ Q4.eq_1 @zM;refine ax (m:=0) (σ:=Nat) (fun i=>l.length-i) (fun i=>i<=l.length) (fun i=>[vi most,vl (l.map eN),vi l.length,vi i]) (fun _=>[]) (fun _=>(vb true,[])) ?_ 0 (zP _) _ _ bO
 intro i h1 R hR;by_cases c:i<l.length
 ·have hc:(i:Int)<(l.length:Int):=by omega
  have g1:(l.map eN)[i]?=some [.i .i64 l[i]]:=by rw[zG,zE c];rfl
  have hx:=h _ (zN c);have hK:=hR (i+1) (by omega) (by omega)
  clear hR;generalize l[i]=x at *;have x1:¬ x<0:=by omega
  have x2:¬ most<x:=by omega
  refine bC ?_ Ho.eq_1 (zT hc) g1 (zF x1) (zF x2);exact hK _ _ bO
 ·have hc:¬ (i:Int)<(l.length:Int):=by omega
  refine bC ?_ Ho.eq_1 Q4.eq_1 (zF hc);try simp[trim]
theorem ID (a:Int) (ha:0<=a∧a<=1099511627776) (l:List Rec) (hl:l.length<=64) (h:∀ i (hi:i<l.length),whyF l[i]=0∧l[i].at_=a+(i:Nat)) (ho:∀ r∈l,r.ok):call 60 [vl (l.map Rec.enc),vi a] []=some (vb true,[]):=by
 apply ae TP rfl;refine bC ?_ QI.eq_1 @zM;refine ax (m:=0) (σ:=Nat) (fun i=>l.length-i) (fun i=>i<=l.length) (fun i=>[vl (l.map Rec.enc),vi a,vl (l.map Rec.enc),vi l.length,vi i]) (fun _=>[]) (fun _=>(vb true,[])) ?_ 0 (zP _) _ _ bO
 intro i h1 R hR;by_cases c:i<l.length
 ·have hc:(i:Int)<(l.length:Int):=by omega
  have g1:(l.map Rec.enc)[i]?=some l[i].enc:=by rw[zG,zE c];rfl
  obtain⟨hx,hy⟩:=h i c;have q:=sY l[i] (ho _ (zN c));rw[zT hx] at q;have hK:=hR (i+1) (by omega) (by omega)
  clear hR;generalize l[i]=r at *;obtain⟨ra,rb,rd⟩:=r;simp only[Rec.enc,List.map_cons,List.map_nil] at g1 q hy;subst hy;refine bC ?_ Hm.eq_1 (zT hc) g1 q @Hb @Kh;exact hK _ _ bO
 ·have hc:¬ (i:Int)<(l.length:Int):=by omega
  have h64:((l.length:Nat):Int)<=64:=by omega
  refine bC ?_ Hm.eq_1 QI.eq_1 (zF hc) (zT h64) @zM;try simp[trim]
def cC (a:Int) (l:List Rec):Mg:=⟨2,0,1,1,3,0,a,0,0,0,0,0,0,[],l⟩
def gj (a k sz su:Int) (da:Txt):Mg:=⟨3,0,1,1,3,0,a,0,0,0,k,sz,su,da,[]⟩
theorem xS (a:Int) (ha:0<=a∧a<=1099511627776) (l:List Rec) (hl:l.length<=64) (h:∀ i (hi:i<l.length),whyF l[i]=0∧l[i].at_=a+(i:Nat)) (ho:∀ r∈l,r.ok):call 36 [.agg (cC a l).l] []=some (vb true,[]):=by
 have q1:=iX 7 [0,1] (by decide) (by simp)
 have q2:=iX 1099511627776 [1,3,0,a,0,0] (by simp) (by simp;omega)
 have q3:=iX 65536 [0,0,0] (by simp) (by simp)
 have q4:=ID a ha l hl h ho;simp only[eN,List.map_cons,List.map_nil] at q1 q2 q3;simp only[cC,Mg.l];apply ae Ta rfl;(simp(disch:=first|decide|omega|(intros;exact aN rfl rfl)|simp only[am]) only[gu,Ry,List.replicate,List.set,q1,q2,q3,q4,go_sem,seval,aO])
 try simp[trim]
theorem xI (a:Int) (ha:0<=a∧a<=1099511627776) (k sz su:Int) (da:Txt) (hk:0<=k∧k<=sz) (hs:0<sz∧sz<=65536) (hd:da.length<=4096):call 36 [.agg (gj a k sz su da).l] []=some (vb true,[]):=by
 have q1:=iX 7 [0,1] (by decide) (by simp)
 have q2:=iX 1099511627776 [1,3,0,a,0,0] (by simp) (by simp;omega)
 have q3:=iX 65536 [0,k,sz] (by simp) (by simp;omega)
 simp only[eN,List.map_cons,List.map_nil] at q1 q2 q3;have h1:(0:Int)<sz:=hs.1;have h2:k<=sz:=hk.2;have h3:((da.length:Nat):Int)<=4096:=by omega
 simp only[gj,Mg.l,List.map_nil];apply ae Ta rfl;(simp(disch:=first|decide|omega|(intros;exact aN rfl rfl)|simp only[am]) only[gu,Ry,List.replicate,List.set,q1,q2,q3,zT h1,zT h2,zT h3,go_sem,seval,aO])
 try simp[trim]
def MZ (d:Txt):Ac:=⟨0,0,0,d⟩
def UE:List Ac:=[MZ [97,49],MZ [97,50],MZ [98,51],MZ [99,52],MZ [99],MZ [100,53],MZ [101]]
def exP:Sto:=(Pg 30 UE).1
def exT:Sto × Int:=cM exP 0 100
theorem se (q:List Pr) (hs:gd q) (ho:okP q) (R:List Rec) (hR:R.length<=1000000) (hr:∀ r∈R,r.da.length<=64):call 21 [vl (q.map Pr.enc),vl (R.map Rec.enc)] []=some (vl ((cL q R).map Pr.enc),[]):=by
 apply ae TV rfl;obtain⟨Z,hZ⟩:∃ Z:V,Z=vl ((cL q R).map Pr.enc):=⟨_,rfl⟩;rw[<- hZ];refine bC ?_ R8.eq_1;refine ax (m:=0) (σ:=Nat × List Pr) (fun t=>R.length-t.1) (fun t=>t.1<=R.length∧(gd t.2∧okP t.2)∧Z=vl ((cL t.2 (R.drop t.1)).map Pr.enc)) (fun t=>[vl (t.2.map Pr.enc),vl (R.map Rec.enc),vi t.1]) (fun _=>[])
  (fun _=>(Z,[])) ?_ (0,q) ⟨zP _,⟨hs,ho⟩,hZ⟩ _ _ bO
 rintro⟨i,w⟩ ⟨h1,h2,h3⟩ K hK;simp only at h1 h2 h3 ⊢;by_cases c:i<R.length
 ·have hc:(i:Int)<(R.length:Int):=by omega
  rw[zD c] at h3;have g1:(R.map Rec.enc)[i]?=some R[i].enc:=by rw[zG,zE c];rfl
  have hd:=hr _ (zN c);have hwl:=pV h2.1 h2.2;have g2:=step_ref w (by omega) R[i].da (by omega)
  have hK':=hK (i+1,cH w R[i].da) (by simp only[];omega) ⟨by simp only[];omega,⟨step_srt h2.1 _,step_ok h2.2 hd⟩,h3⟩
  generalize R[i]=r at *;generalize cH w r.da=w2 at *;obtain⟨ra,rt,rd⟩:=r;simp only[Rec.enc] at g1 g2;refine bC ?_ H7.eq_1 (zT hc) g1 g2;exact hK' _ _ bO
 ·have hc:¬ (i:Int)<(R.length:Int):=by omega
  rw[zC (by omega)] at h3
  rw[h3];refine bC ?_ H7.eq_1 R8.eq_1 (zF hc);try simp[trim,cL]
def zr (d:Txt):Rec:=⟨0,0,d⟩
def Jt (kd a i n:Nat) (m:Mg):List L:=[zU (kd:Nat),zU (a:Nat),zU (i:Nat),zU (n:Nat),zI m.kd,zI m.fr,zI m.tt,zI m.ic,zI m.pe,zI m.sq,zI m.at_,zI m.wi,zI m.hi,zI m.wa,zI m.ix,zI m.sz,zW m.su,zS m.da,.d (.l (m.rs.map Rec.enc))]
def staA (all:List Rec) (k:Nat):List Pr:=cL [] (all.take k)
def dO (all:List Rec) (k:Nat):Txt:=aZ (staA all k)
def xu (len lo n:Nat):Nat:=if lo+n<len then lo+n else len
def kj (all:List Rec) (kd a i n:Nat):Mg :=
 if kd % 6=0 then cC ((a % (all.length+1):Nat):Int) ((all.take (xu all.length (a % (all.length+1)) (n % 6))).drop (a % (all.length+1))) else
  gj ((a % (all.length+1):Nat):Int) ((i % ((dO all (a % (all.length+1))).length+1):Nat):Int) ((dO all (a % (all.length+1))).length:Nat) (cB (dO all (a % (all.length+1))))
   (((dO all (a % (all.length+1))).take (xu (dO all (a % (all.length+1))).length (i % ((dO all (a % (all.length+1))).length+1)) n)).drop (i % ((dO all (a % (all.length+1))).length+1)))
theorem CQ:∀ l:List Pr,okP l->(l.flatMap io).length<=74*l.length
 | [],_=>by simp
 | p::l,h=>by
  have h1:=CQ l fun x hx=>h x (by simp[hx])
  have h2:=(h p (by simp)).2
  have h3:(ai p.val.length).length<=9:=dD (n:=p.val.length) (by omega)
  rw[List.flatMap_cons,zA,List.length_cons];simp only[io,List.length_cons,zA];omega
theorem vn {l:List Pr} (h:okP l) (hl:l.length<=256):(aZ l).length<=9+74*l.length:=by
 have h1:=CQ l h;have h3:(ai l.length).length<=9:=dD (n:=l.length) (by omega)
 unfold aZ;rw[zA];omega
theorem LE (len lo n:Nat):(if((lo:Nat):Int)+((n:Nat):Int)<((len:Nat):Int) then((lo:Nat):Int)+((n:Nat):Int) else((len:Nat):Int))=((xu len lo n:Nat):Int):=by
 unfold xu;by_cases c:lo+n<len
 ·rw[if_pos c,if_pos (by omega)];omega
 ·rw[if_neg c,if_neg (by omega)]
theorem vW (len lo n:Nat) (h:lo<=len):lo<=xu len lo n∧xu len lo n<=len:=by unfold xu;split <;> omega
theorem iA (all:List Rec) (ho:∀ r∈all,r.da.length<=64) (hl:all.length<=1000) (kd a i n:Nat) (hk:kd<256) (ha:a<256) (hi:i<256) (hn:n<256) (m:Mg) :
  call 13 [vl (all.map Rec.enc),.agg (Jt kd a i n m)] []=some (.agg (kj all kd a i n).l,[]):=by
 unfold kj Jt;have hat:a % (all.length+1)<=all.length:=by have:=Nat.mod_lt a (show 0<all.length+1 by omega);omega
 have r1:((a:Nat):Int).tmod ((all.length:Nat)+1:Int)=((a % (all.length+1):Nat):Int):=by
  have:=gw a (all.length+1) (by omega)
  rw[<- this];congr 1
 have r2:((kd:Nat):Int).tmod 6=((kd % 6:Nat):Int):=gw kd 6 (by decide)
 have r3:((n:Nat):Int).tmod 6=((n % 6:Nat):Int):=gw n 6 (by decide)
 have hn6:n % 6<6:=Nat.mod_lt _ (by decide)
 have hk6:kd % 6<6:=Nat.mod_lt _ (by decide)
 have z1:¬ ((all.length:Nat):Int)+1=0:=by omega
 generalize a % (all.length+1)=at0 at *;have hokr:aQ 3 (all.map Rec.enc)=true:=aV Rec.len _;apply ae Ur rfl;by_cases c:kd % 6=0
 ·rw[if_pos c];have c':((kd % 6:Nat):Int)=0:=by omega
  obtain⟨j1,j2⟩:=vW all.length at0 (n % 6) hat;have e1:=LE all.length at0 (n % 6);have hd:List.drop at0 (List.take (xu all.length at0 (n % 6)) (all.map Rec.enc))=((all.take (xu all.length at0 (n % 6))).drop at0).map Rec.enc:=by rw[List.map_drop,List.map_take]
  generalize xu all.length at0 (n % 6)=j at *;simp only[cC,Mg.l];rw[<- hd];refine bC ?_ RK.eq_1 r1 z1 r2 (eq_true c') r3 e1 hokr @zM;try simp[trim]
 ·rw[if_neg c];have c':¬ ((kd % 6:Nat):Int)=0:=by omega
  have hsrt:gd ([]:List Pr):=List.Pairwise.nil;have hokp:okP ([]:List Pr):=fun p hp=>by cases hp
  have ht:List.take at0 (all.map Rec.enc)=(all.take at0).map Rec.enc:=by rw[List.map_take]
  have q1:=se [] hsrt hokp (all.take at0) (by simp;omega) (fun r hr=>ho r (zZ hr))
  have hf:=lY (all.take at0) [] hsrt hokp (fun r hr=>ho r (zZ hr))
  have hsl:=pV hf.1 hf.2.1;have hst:cL [] (all.take at0)=staA all at0:=rfl;rw[hst] at q1 hf hsl;have hsb:(aZ (staA all at0)).length<=20000:=by have:=vn hf.2.1 hsl;omega
  have q2:=D1 (staA all at0) (by omega) (by omega) (fun p hp=>(hf.2.1 p hp).1)
  have hsn:aZ (staA all at0)=dO all at0:=rfl;rw[hsn] at q2 hsb;have q3:=ug (dO all at0) (by omega)
  have hsu:(((cr 0#32 (dO all at0)).toNat:Nat):Int)=cB (dO all at0):=rfl;rw[hsu] at q3;generalize dO all at0=s at *;generalize staA all at0=q at *;have hkk:i % (s.length+1)<=s.length:=by have:=Nat.mod_lt i (show 0<s.length+1 by omega);omega
  have r4:((i:Nat):Int).tmod ((s.length:Nat)+1:Int)=((i % (s.length+1):Nat):Int):=by
   have:=gw i (s.length+1) (by omega)
   rw[<- this];congr 1
  have z2:¬ ((s.length:Nat):Int)+1=0:=by omega
  generalize i % (s.length+1)=k at *;obtain⟨j1,j2⟩:=vW s.length k n hkk;have e1:=LE s.length k n;generalize xu s.length k n=j at *;simp only[gj,Mg.l,List.map_nil] at q1 ⊢;refine bC ?_ RK.eq_1 r1 z1 r2 (eq_false c') hokr ht q1 q2 q3 r4 (And.intro z2 (And.intro e1 @zM));try simp[trim]
end Go.Proofs.YtgoifbjgmgbihaaGreat
