import Derived.Test.YtghfhomfppbooaaGreatT05
import Derived.Test.YtghfhomfppbooaaGreatT03
import Derived.Test.YtghfhomfppbooaaGreatVie
import Derived.Test.YtghfhomfppbooaaGreatT02
import Derived.Test.YtghfhomfppbooaaGreatT04
set_option linter.unusedSimpArgs false
set_option linter.unusedVariables false
set_option maxRecDepth 20000
set_option maxHeartbeats 16000000
namespace Go.Proofs.YtghfhomfppbooaaGreat
open Go.Vi
def J3 (l:List Pr) (R:List Rec):List Pr:=R.foldl (fun l r=>iG l r.da) l
def Sto.rcs (s:Sto) (g:Seg):List Rec:=(cP (s.txt g) g.base).1.map (·.1)
variable {k u:Nat} {f:Int} {S:Txt} {l0:List Pr} {s:Sto} {M:List SR} {g:Seg} {l:List Rec}
def Pp (l0:List Pr) (f:Int) (R:List Rec) (off:Int):List Pr:=J3 l0 (R.take (off-f).toNat)
def Pn (l:List Pr):Prop:=∀ p∈l,(0<=p.key∧p.key<256)∧(1<=p.val.length∧p.val.length<=63)
theorem yV {k u:Nat} {d:Dsk} (h:okN k u d) (h0:(bD d).2=0):okS (k+2) (u+1000) (bD d).1∧(∀ seg:Int,0<=seg->Mh 0 seg (bD d).1 [])∧(bD d).1.next=0∧(bD d).1.sure=0:=by
 have k1:=fH (s:=(d,0)) h (fileN 0);unfold bD at h0 ⊢;simp only[] at h0 ⊢;have k2:okN (k+2) (u+1000) (if(bS (fileN 0) (d,0)).2=0 then bX ⟨1,[0],0,0⟩ (bS (fileN 0) (d,0)) else bS (fileN 0) (d,0)).1:=by
  split
  ·exact(jm k1 _).up (by omega) (by omega)
  ·exact k1.up (by omega) (by omega)
 have hd:(bS (fileN 0) (d,0)).2=0->hasD (if(bS (fileN 0) (d,0)).2=0 then bX ⟨1,[0],0,0⟩ (bS (fileN 0) (d,0)) else bS (fileN 0) (d,0)).1.files (fileN 0) []:=fun hc=>by
  rw[if_pos hc];exact Cc k1 _ (zh _ _) (zh _ _) (Hj hc)
 have hc:(if(bS (fileN 0) (d,0)).2=0 then bX ⟨1,[0],0,0⟩ (bS (fileN 0) (d,0)) else bS (fileN 0) (d,0)).2=0->(bS (fileN 0) (d,0)).2=0:=fun hx=>by
  by_cases hc:(bS (fileN 0) (d,0)).2=0
  ·exact hc
  ·rw[if_neg hc] at hx;exact hx
 generalize (if(bS (fileN 0) (d,0)).2=0 then bX ⟨1,[0],0,0⟩ (bS (fileN 0) (d,0)) else bS (fileN 0) (d,0))=s2 at *
 by_cases c:s2.2=0
 ·rw[if_pos c];have hd:=hd (hc c);refine⟨⟨k2,by simp,?_,by simp,⟨by simp,by simp only[];omega⟩,by simp⟩,fun seg hs=>⟨[],⟨0,0,0⟩,[],⟨rfl,?_,rfl,rfl,by simp⟩,⟨fun p hp=>(by cases hp),by simp only[];omega⟩,rfl⟩,rfl,rfl⟩
  ·intro g hg;simp only[zV] at hg;subst hg;simp;omega
  ·intro p hp;simp only[List.nil_append,zV] at hp;subst hp;exact⟨hd,fun r hr=>(by cases hr),fun k hk=>(by simp at hk),rfl,rfl⟩
 ·rw[if_neg c] at h0;exact absurd h0 c
def d0:Dsk:=⟨[],0,false,0,false⟩
theorem DK:okN 0 0 d0:=⟨Nat.le_refl _,List.Pairwise.nil,by decide,by decide,Nat.le_refl _⟩
theorem I2:(bD d0).2=0:=by decide +kernel
variable {k u:Nat} {f:Int} {S:Txt} {l0:List Pr} {s:Sto} {M:List SR} {g:Seg} {l:List Rec}
variable {k u:Nat} {f:Int} {S:Txt} {l0:List Pr} {s:Sto} {M:List SR} {g:Seg} {l:List Rec}
structure Ac where
 kind:Int
 n:Int
 m:Int
 data:List UInt8
 deriving DecidableEq
def Ac.enc (e:Ac):List D:=[.i .i64 e.kind,.i .i64 e.n,.i .i64 e.m,.s e.data]
def Ac.ok (e:Ac):Prop:=(-9223372036854775808<=e.kind∧e.kind<9223372036854775808)∧(-9223372036854775808<=e.n∧e.n<9223372036854775808)∧(-9223372036854775808<=e.m∧e.m<9223372036854775808)∧e.data.length<=9223372036854775807
def Ac.ty:List Ty:=[.i .i64,.i .i64,.i .i64,.s]
theorem Ac.of (r:List D) (h:dF Ac.ty r):∃ e:Ac,r=e.enc∧e.ok:=by
 simp only[Ac.ty,dF,IK] at h;obtain⟨_,_,rfl,⟨x0,rfl,h0,g0⟩,⟨_,_,rfl,⟨x1,rfl,h1,g1⟩,⟨_,_,rfl,⟨x2,rfl,h2,g2⟩,⟨_,_,rfl,⟨x3,rfl,h3⟩,rfl⟩⟩⟩⟩:=h;refine⟨⟨x0,x1,x2,x3⟩,rfl,?_⟩;exact⟨⟨Int.le_trans (by decide) h0,zK g0 (by decide)⟩,⟨Int.le_trans (by decide) h1,zK g1 (by decide)⟩,⟨Int.le_trans (by decide) h2,zK g2 (by decide)⟩,h3⟩
def vE (seg i:Int) (s:Sto) (a:Ac):Sto :=
 if a.kind=1 then(dh s).1 else if a.kind=2 then(iU s a.n a.m).1 else if a.kind=3 then { s with disk:=GL s.disk a.n } else if a.kind=4 then { s with disk:=Gm s.disk a.n } else(lQ s seg ⟨s.next,i,a.data⟩).1
def uk (seg:Int):Int->List Ac->Sto->Sto × Bool
 | _,[],s=>(s,true)
 | i,a::l,s=>if 64<a.data.length then(s,false) else uk seg (i+1) l (vE seg i s a)
def kI (seg:Int) (l:List Ac):Sto × Bool:=if 40<l.length then((bD d0).1,false) else uk seg 0 l (bD d0).1
structure PI (i:Nat) (s:Sto):Prop where
 ok:okS (10+2*i) (2000+23000*i) s
 next:s.next<=i
 base:∀ g∈s.segs,g.base<=s.next
theorem vG {k u:Nat} {s:Sto} (h:okS k u s):0<=s.floor:=(nK h).1
theorem w9 (t:Sto) (x:Txt) (h:∀ g∈t.segs,g.base<=t.next) (h1:1<=t.segs.length):(∀ g∈(mo t x).1.segs,g.base<=(mo t x).1.next)∧(mo t x).1.next<=t.next+1:=by
 by_cases c:(aA t.disk (dg t.disk.files t.disk.cap (fileN t.last.base) x)).2≠0
 ·have e:mo t x=({ t with disk:=(aA t.disk (dg t.disk.files t.disk.cap (fileN t.last.base) x)).1 },(aA t.disk (dg t.disk.files t.disk.cap (fileN t.last.base) x)).2):=by unfold mo;simp only[];rw[if_pos c]
  rw[e];exact⟨h,by show t.next<=t.next+1;omega⟩
 ·have e:mo t x=({ xI t x.length with disk:=(aA t.disk (dg t.disk.files t.disk.cap (fileN t.last.base) x)).1 },0):=by unfold mo;simp only[];rw[if_neg c]
  rw[e];refine⟨fun g hg=>?_,Int.le_refl _⟩
  have hg':g∈t.segs.dropLast++[⟨t.last.base,t.last.n+1,t.last.size+x.length⟩]:=hg;show g.base<=t.next+1;rcases zX.1 hg' with hg|hg
  ·have:=h g (List.dropLast_subset _ hg);omega
  ·rw[zV.1 hg];have:=h t.last (kP h1);show t.last.base<=t.next+1;omega
theorem AU (s:Sto) (h:∀ g∈s.segs,g.base<=s.next):(∀ g∈(dp s).1.segs,g.base<=(dp s).1.next)∧(dp s).1.next=s.next:=by
 have hs:(dh s).1.segs=s.segs:=rfl;have hn:(dh s).1.next=s.next:=rfl;unfold dp;split
 ·exact⟨h,rfl⟩
 ·split
  ·exact⟨by rw[hs,hn];exact h,hn⟩
  ·split
   ·refine⟨fun g hg=>?_,rfl⟩
    have hg':g∈s.segs++[⟨s.next,0,0⟩]:=hg;show g.base<=s.next;rcases zX.1 hg' with hg|hg
    ·exact h g hg
    ·rw[zV.1 hg];exact Int.le_refl _
   ·exact⟨by rw[show({ (dh s).1 with disk:=(kD (dh s).1).1 }:Sto).segs=s.segs from rfl];exact h,rfl⟩
theorem DW {k u:Nat} {s:Sto} (ho:okS k u s) (h:∀ g∈s.segs,g.base<=s.next) (seg:Int) (r:Rec):(∀ g∈(lQ s seg r).1.segs,g.base<=(lQ s seg r).1.next)∧(lQ s seg r).1.next<=s.next+1:=by
 have hr:=AU s h;have ho2:=rI ho;unfold lQ;split
 ·exact⟨h,by show s.next<=s.next+1;omega⟩
 ·split
  ·exact⟨h,by show s.next<=s.next+1;omega⟩
  ·split
   ·split
    ·exact⟨hr.1,by rw[hr.2];omega⟩
    ·have:=w9 (dp s).1 (mi r).1 hr.1 ho2.len.1;rw[hr.2] at this;exact this
   ·exact w9 s _ h ho.len.1
theorem B9 {s:Sto} (h:∀ g∈s.segs,g.base<=s.next) (keep count:Int):(∀ g∈(iU s keep count).1.segs,g.base<=(iU s keep count).1.next)∧(iU s keep count).1.next=s.next:=by
 unfold iU;split
 ·exact⟨h,rfl⟩
 ·unfold p9;simp only[];split
  ·exact⟨h,rfl⟩
  ·refine⟨fun g hg=>?_,rfl⟩
   exact h g (List.mem_of_mem_drop hg)
theorem CL {i:Nat} {s:Sto} (h:PI i s) (hi:i<40) (seg:Int) (a:Ac) (ha:a.ok):PI (i+1) (vE seg i s a):=by
 have h2:=h.ok.up (k':=10+2*(i+1)) (u':=2000+23000*(i+1)) (by omega) (by omega)
 have hn:=h.next;unfold vE;split
 ·exact⟨(qE h.ok).up (by omega) (by omega),by show s.next<=_;omega,h.base⟩
 ·split
  ·have hb:=B9 h.base a.n a.m;refine⟨?_,by rw[hb.2];omega,hb.1⟩
   unfold iU;split
   ·exact h2
   ·rename_i hne;have hlt:=vF s.segs a.n a.m hne;have hfl:=vG h.ok;have:=C5 h.ok hlt (by rw[(nN hlt).2];have:=h.base _ (zN hlt);omega)
    exact this.up (by omega) (by omega)
  ·split
   ·refine⟨⟨⟨h2.dsk.len,h2.dsk.srt,?_,h2.dsk.cap,h2.dsk.used⟩,h2.len,h2.seg,h2.next,h2.ver,h2.sum⟩,by show s.next<=_;omega,h.base⟩
    have:=ha.2.1;show 0<=(if 0<a.n then a.n else 0)∧(if 0<a.n then a.n else 0)<9223372036854775808
    split <;> omega
   ·split
    ·refine⟨⟨⟨h2.dsk.len,h2.dsk.srt,h2.dsk.left,?_,h2.dsk.used⟩,h2.len,h2.seg,h2.next,h2.ver,h2.sum⟩,by show s.next<=_;omega,h.base⟩
     have:=ha.2.1;show 0<=(if 0<a.n then a.n else 0)∧(if 0<a.n then a.n else 0)<9223372036854775808
     split <;> omega
    ·have hb:=DW h.ok h.base seg ⟨s.next,i,a.data⟩;exact⟨(Ad h.ok seg _).up (by omega) (by omega),by have:=hb.2;omega,hb.1⟩
theorem new_PI:PI 0 (bD d0).1:=by
 obtain⟨o1,hd1,n1,s1⟩:=yV DK I2;refine⟨o1.up (by omega) (by omega),by rw[n1];omega,fun g hg=>?_⟩
 have e:(bD d0).1.segs=[⟨0,0,0⟩]:=by decide +kernel
 rw[e,zV] at hg;rw[hg,n1];exact Int.le_refl _
theorem PI.up {i j:Nat} {s:Sto} (h:PI i s) (hj:i<=j):PI j s:=⟨h.ok.up (by omega) (by omega),by have:=h.next;omega,h.base⟩
theorem Aw (seg:Int):∀ (l:List Ac) (i:Nat) (s:Sto),(∀ a∈l,a.ok)->i+l.length<=40->PI i s->PI 40 (uk seg i l s).1
 | [],i,s,_,h,hp=>hp.up (by simp at h;omega)
 | a::l,i,s,ha,h,hp=>by
  simp only[uk];split
  ·exact hp.up (by simp at h;omega)
  ·have:=Aw seg l (i+1) (vE seg i s a) (fun b hb=>ha b (by simp[hb])) (by simp at h;omega) (CL hp (by simp at h;omega) seg a (ha a (by simp)))
   rw[Int.natCast_add,Int.natCast_one] at this;exact this
theorem Ap (seg:Int) (l:List Ac) (ha:∀ a∈l,a.ok):PI 40 (kI seg l).1:=by
 unfold kI;split
 ·exact new_PI.up (by omega)
 ·exact Aw seg l 0 _ ha (by omega) new_PI
theorem xH (seg:Int) (l:List Ac) (hl:l.length<=9223372036854775807) (ha:∀ a∈l,a.ok):call 38 [vi seg,vl (l.map Ac.enc)] []=some (.tup [(true,(kI seg l).1.l),(false,[.d (.b (kI seg l).2)])],[]):=by
 have q0:=sQ d0 DK (by decide) (by decide)
 have hp0:=new_PI;have hd0:d0.l=[.d (.l []),zI 0,zB false,zI 0,zB false]:=rfl;have hcell:∀ s:Sto,s.l=[.d (.l (s.disk.files.map Fil.enc)),zI s.disk.cap,zB s.disk.armed,zI s.disk.left,zB s.disk.down,zI s.ver,.d (.l (s.segs.map Seg.enc)),zI s.next,zI s.sure,zI s.size,zW s.sum]:=fun _=>rfl
 obtain⟨P,hP⟩:∃ P,P=kI seg l:=⟨_,rfl⟩;rw[<- hP];unfold kI at hP;generalize bD d0=r0 at *;obtain⟨st0,e0⟩:=r0;simp only[bh,hcell,hd0] at q0 hP hp0 ⊢;apply ah Ov rfl;by_cases c0:40<l.length
 ·rw[if_pos c0] at hP;subst hP;have hc0:(40:Int)<(l.length:Int):=by omega
  (simp(disch:=first|decide|omega|(intros;exact aj rfl rfl)|simp only[aa]) only[aH,LD,q0,zT hc0,go_sem,seval,ai])
  try simp[trim]
 ·rw[if_neg c0] at hP;have hc0:¬ (40:Int)<(l.length:Int):=by omega
  (simp(disch:=first|decide|omega|(intros;exact aj rfl rfl)|simp only[aa]) only[aH,LD,q0,zF hc0,go_sem,seval,ai])
  refine aE (m:=0) (σ:=Nat × Sto) (fun t=>l.length-t.1) (fun t=>t.1<=l.length∧PI t.1 t.2∧P=uk seg t.1 (l.drop t.1) t.2) (fun t=>[vi seg,vl (l.map Ac.enc),V.one (.p 0 0),V.one (.p 1 0),vi t.1])
   (fun t=>[.cells [.ns,zI 0,zB false,zI 0,zB false,zI 0,.ns,zI 0,zI 0,zI 0,zW 0],.cells [.d (.l (t.2.disk.files.map Fil.enc)),zI t.2.disk.cap,zB t.2.disk.armed,zI t.2.disk.left,zB t.2.disk.down,zI t.2.ver,.d (.l (t.2.segs.map Seg.enc)),zI t.2.next,zI t.2.sure,zI t.2.size,zW t.2.sum]]) (fun _=>(V.tup [(true,[.d (.l (P.1.disk.files.map Fil.enc)),zI P.1.disk.cap,zB P.1.disk.armed,zI P.1.disk.left,zB P.1.disk.down,zI P.1.ver,.d (.l (P.1.segs.map Seg.enc)),zI P.1.next,zI P.1.sure,zI P.1.size,zW P.1.sum]),(false,[zB P.2])],[])) ?_ (0,st0) ⟨zP _,hp0,hP⟩ _ _ ?_
  rotate_left
  ·exact bv
  rintro⟨i,s⟩ ⟨h1,h2,h3⟩ R hR;simp only at h1 h2 h3 ⊢;by_cases c1:i<l.length
  ·have hc1:(i:Int)<(l.length:Int):=by omega
   rw[zD c1,uk] at h3;have g1:(l.map Ac.enc)[i]?=some l[i].enc:=by rw[zG,zE c1];rfl
   have haa:=ha _ (zN c1);have hnx:=CL h2 (by omega) seg l[i] haa
   obtain⟨a,hae⟩:∃ a,a=l[i]:=⟨_,rfl⟩;rw[<- hae] at g1 h3 haa hnx;have ho:=h2.ok;by_cases c2:64<a.data.length
   ·rw[if_pos c2] at h3;subst h3;obtain⟨ak,an,am,ad⟩:=a;simp only[Ac.enc] at g1 c2;have hc2:(64:Int)<(ad.length:Int):=by omega
    (simp(disch:=first|decide|omega|(intros;exact aj rfl rfl)|simp only[aa]) only[aH,px,zT hc1,g1,zT hc2,go_sem,seval,ai,bg,A.kind,A.xs,aG,A.isN])
    try simp[trim]
   ·rw[if_neg c2] at h3;have hR':=hR (i+1,vE seg i s a) (by simp only[];omega) ⟨by simp only[];omega,hnx,by simp only[];rw[Int.natCast_add,Int.natCast_one];exact h3⟩
    have hnn:=ho.next;have q1:=sV s ho (by omega) (by omega)
    have hfl:=vG ho;have q2:=yc s ho (by omega) (by omega) a.n a.m (fun g hg=>by have:=h2.base g hg;have:=h2.next;omega)
    have q3:=vz s.disk a.n haa.2.1;have q4:=DP s.disk a.n haa.2.1;have q5:=o8 s ho (by omega) (by omega) seg ⟨s.next,i,a.data⟩ ⟨by simp only[];omega,by simp only[];omega,haa.2.2.2⟩
    have hc2:¬ (64:Int)<(a.data.length:Int):=by omega
    unfold vE at hR';generalize dh s=r1 at *;generalize iU s a.n a.m=r2 at *;generalize GL s.disk a.n=r3 at *;generalize Gm s.disk a.n=r4 at *;generalize lQ s seg ⟨s.next,i,a.data⟩=r5 at *;obtain⟨ak,an,am,ad⟩:=a;obtain⟨⟨fl,cp,ar,lf,dn⟩,ver,segs,next,sure,size,sum⟩:=s;simp only[Ac.enc,Dsk.l,bh,hcell,Rec.enc,List.map_cons,List.map_nil] at g1 hc2 q1 q2 q3 q4 q5 hR';by_cases k1:ak=1
    ·subst k1;rw[if_pos rfl] at hR';(simp(disch:=first|decide|omega|(intros;exact aj rfl rfl)|simp only[aa]) only[aH,px,zT hc1,g1,zF hc2,q1,go_sem,seval,ai,bg,A.kind,A.xs,aG,A.isN])
     exact hR' _ _ bv
    ·rw[if_neg k1] at hR';by_cases k2:ak=2
     ·subst k2;rw[if_pos rfl] at hR';(simp(disch:=first|decide|omega|(intros;exact aj rfl rfl)|simp only[aa]) only[aH,px,zT hc1,g1,zF hc2,q2,go_sem,seval,ai,bg,A.kind,A.xs,aG,A.isN])
      exact hR' _ _ bv
     ·rw[if_neg k2] at hR';by_cases k3:ak=3
      ·subst k3;rw[if_pos rfl] at hR';(simp(disch:=first|decide|omega|(intros;exact aj rfl rfl)|simp only[aa]) only[aH,px,zT hc1,g1,zF hc2,q3,go_sem,seval,ai,bg,A.kind,A.xs,aG,A.isN])
       exact hR' _ _ bv
      ·rw[if_neg k3] at hR';by_cases k4:ak=4
       ·subst k4;rw[if_pos rfl] at hR';(simp(disch:=first|decide|omega|(intros;exact aj rfl rfl)|simp only[aa]) only[aH,px,zT hc1,g1,zF hc2,q4,go_sem,seval,ai,bg,A.kind,A.xs,aG,A.isN])
        exact hR' _ _ bv
       ·rw[if_neg k4] at hR';(simp(disch:=first|decide|omega|(intros;exact aj rfl rfl)|simp only[aa]) only[aH,px,zT hc1,g1,zF hc2,k1,k2,k3,k4,q5,go_sem,seval,ai,bg,A.kind,A.xs,aG,A.isN])
        exact hR' _ _ bv
  ·have hc1:¬ (i:Int)<(l.length:Int):=by omega
   rw[zC (by omega),uk] at h3
   subst h3;(simp(disch:=first|decide|omega|(intros;exact aj rfl rfl)|simp only[aa]) only[aH,px,LD,zF hc1,go_sem,seval,ai,bg,A.kind,A.xs,aG,A.isN])
   try simp[trim]
variable {k u:Nat} {f:Int} {S:Txt} {l0:List Pr} {s:Sto} {M:List SR} {g:Seg} {l:List Rec}
variable {k u:Nat} {f:Int} {S:Txt} {l0:List Pr} {s:Sto} {M:List SR} {g:Seg} {l:List Rec}
def CQ:List Txt->Dsk->Dsk × Int
 | [],d=>(d,9)
 | n::l,d=>if(aA d (b7 d.files n)).2≠0 then aA d (b7 d.files n) else CQ l (aA d (b7 d.files n)).1
abbrev LR:=(Dsk × Int) × Nat × Nat × Nat
def u4 (n g:Txt) (m:Man) (d:Dsk):LR:=if(bX m (d,0)).2=9 then(CQ [g,n] (bX m (d,0)).1,0,1,2) else(bX m (d,0),0,1,0)
def u3 (n g:Txt) (m:Man) (d:Dsk):LR:=if(aA d (cN d.files g)).2≠0 then(aA d (cN d.files g),0,0,0) else u4 n g m (aA d (cN d.files g)).1
def u2 (n g:Txt) (m:Man) (d:Dsk):LR:=if(aA d (di d.files n)).2≠0 then(aA d (di d.files n),0,0,0) else u3 n g m (aA d (di d.files n)).1
def u1 (n g x:Txt) (m:Man) (d:Dsk):LR:=if(aA d (dg d.files d.cap n x)).2=9 then(CQ [n] (aA d (dg d.files d.cap n x)).1,1,0,0) else if(aA d (dg d.files d.cap n x)).2≠0 then(aA d (dg d.files d.cap n x),0,0,0) else u2 n g m (aA d (dg d.files d.cap n x)).1
def u0 (n g x:Txt) (m:Man) (d:Dsk):LR:=if(aA d (cN d.files n)).2≠0 then(aA d (cN d.files n),0,0,0) else u1 n g x m (aA d (cN d.files n)).1
theorem Cg (x:Txt) (hx:x.length<=1000000):call 106 [vl [[.s x]]] []=some (vk .u32 (mS x),[]):=by
 have h:=w8 [x] (by simp) (fun s hs=>by rw[zV.1 hs];omega)
 have e:rh [x]=bF 0#32 x:=rfl;rw[e] at h;exact h
def exW:Txt:=[1,97,1,49]
variable {k u:Nat} {f:Int} {S:Txt} {l0:List Pr} {s:Sto} {M:List SR} {g:Seg} {l:List Rec}
variable {k u:Nat} {f:Int} {S:Txt} {l0:List Pr} {s:Sto} {M:List SR} {g:Seg} {l:List Rec}
def tp (b:Txt):Nat->Nat->List Nat->Option (List Nat × Nat)
 | 0,a,l=>some (l,a)
 | n+1,a,l=>match i7 (b.drop a) 0 0 with
  | some (v,j)=>tp b n (a+j) (l++[v])
  | none=>none
def lS:Txt->Int
 | [a,b,c,d]=>(a.toNat+256*(b.toNat+256*(c.toNat+256*d.toNat)):Nat)
 | _=>0
def tq (b:Txt):Man:=match tp b 2 0 [] with
 | some ([v,n],a)=>match tp b (min n 64+1) a [] with
  | some (l,a2)=>⟨v,l.dropLast.map Int.ofNat,((l.getLastD 0:Nat):Int),lS (b.drop a2)⟩
  | none=>⟨0,[],0,0⟩
 | _=>⟨0,[],0,0⟩
def bG (s:Txt):Option Man:=if manB (tq (bY s 0).1)=true∧bu (tq (bY s 0).1)=s then some (tq (bY s 0).1) else none
theorem ri:∀ (vs:List Nat) (pre rest:Txt) (l:List Nat),(∀ v∈vs,v<9223372036854775808)->tp (pre++(vs.flatMap au++rest)) vs.length pre.length l=some (l++vs,(pre++vs.flatMap au).length)
 | [],pre,rest,l,_=>by simp[tp]
 | v::vs,pre,rest,l,h=>by
  have e:pre++((v::vs).flatMap au++rest)=(pre++au v)++(vs.flatMap au++rest):=by simp
  have hd:(pre++((v::vs).flatMap au++rest)).drop pre.length=au v++(vs.flatMap au++rest):=by
   rw[List.drop_left];simp
  have hr:=ug v (vs.flatMap au++rest) (h v (by simp))
  have ih:=ri vs (pre++au v) rest (l++[v]) (fun x hx=>h x (by simp[hx]))
  have hl:(pre++au v).length=pre.length+nd v:=by rw[zA];rfl
  rw[List.length_cons,tp,hd,hr];simp only[];rw[e,<- hl,ih];simp
theorem oj (x:gy):lS (co x)=((x.toNat:Nat):Int):=by
 have h:=EF x;have e:co x=[UInt8.ofNat x.toNat,UInt8.ofNat (x >>> 8).toNat,UInt8.ofNat (x >>> 16).toNat,UInt8.ofNat (x >>> 24).toNat]:=rfl;rw[e] at h ⊢;simp only[lS];have h2:x.toNat=(UInt8.ofNat x.toNat).toNat+256*(UInt8.ofNat (x >>> 8).toNat).toNat+65536*(UInt8.ofNat (x >>> 16).toNat).toNat+16777216*(UInt8.ofNat (x >>> 24).toNat).toNat:=h;omega
theorem uH {m:Man} (hm:m.ok):(((eY m).toNat:Nat):Int)=m.sum:=by
 have:=hm.sum;unfold eY;rw[BitVec.toNat_ofNat];omega
theorem qw {m:Man} (h:manB m=true):bY (bu m) 0=(aU m,(bu m).length,0):=by
 have hb:=ja h;have:=v6 [] (aU m) [] hb.1 (by omega)
 simp only[List.nil_append,List.append_nil,List.length_nil,Nat.zero_add] at this;exact this
theorem Bw (l:List Int):aN l=(l.map Int.toNat).flatMap au:=by
 unfold aN;rw[List.flatMap_map]
theorem Dv {m:Man} (h:manB m=true) (hm:m.ok):tq (aU m)=m:=by
 obtain⟨h1,h2,h3,h4⟩:=d5 h;have hin:=db _ _ h3;have hb:aU m=[]++(([m.ver.toNat,m.segs.length]:List Nat).flatMap au++((m.segs.map Int.toNat++[m.size.toNat]).flatMap au++co (eY m))):=by
  unfold aU;rw[Bw];simp
 have n1:=ri [m.ver.toNat,m.segs.length] [] ((m.segs.map Int.toNat++[m.size.toNat]).flatMap au++co (eY m)) [] (by
  intro v hv;simp only[List.mem_cons,List.mem_nil_iff,or_false] at hv;rcases hv with rfl|rfl <;> omega)
 have n2:=ri (m.segs.map Int.toNat++[m.size.toNat]) (([m.ver.toNat,m.segs.length]:List Nat).flatMap au) (co (eY m)) [] (by
  intro v hv;rw[zX,List.mem_map,zV] at hv;rcases hv with⟨a,ha,rfl⟩|rfl
  ·have:=hin a ha;omega
  ·omega)
 have hb2:aU m=([m.ver.toNat,m.segs.length]:List Nat).flatMap au++((m.segs.map Int.toNat++[m.size.toNat]).flatMap au++co (eY m)):=by rw[hb];simp
 rw[<- hb] at n1;rw[<- hb2] at n2;have hl2:([m.ver.toNat,m.segs.length]:List Nat).length=2:=rfl;rw[hl2] at n1;simp only[List.nil_append,List.length_nil] at n1 n2;have hmin:min m.segs.length 64+1=(m.segs.map Int.toNat++[m.size.toNat]).length:=by simp;omega
 unfold tq;rw[n1];simp only[hmin,n2];have hd:(aU m).drop (([m.ver.toNat,m.segs.length]:List Nat).flatMap au++(m.segs.map Int.toNat++[m.size.toNat]).flatMap au).length=co (eY m):=by
  rw[hb2,<- List.append_assoc,List.drop_left]
 rw[hd,oj,uH hm];have hsg:(m.segs.map Int.toNat++[m.size.toNat]).dropLast.map Int.ofNat=m.segs:=by
  rw[List.dropLast_concat,List.map_map];conv=>rhs;rw[<- List.map_id m.segs]
  apply List.map_congr_left;intro a ha;have:=hin a ha;show((a.toNat:Nat):Int)=a;omega
 rw[hsg];have hsz:(((m.segs.map Int.toNat++[m.size.toNat]).getLastD 0:Nat):Int)=m.size:=by
  simp[List.getLastD_eq_getLast?];omega
 rw[hsz];have hvv:((m.ver.toNat:Nat):Int)=m.ver:=by omega
 rw[hvv]
theorem nb {m:Man} (h:manB m=true) (hm:m.ok):bG (bu m)=some m:=by
 unfold bG;rw[qw h];simp only[Dv h hm];rw[if_pos ⟨h,trivial⟩]
theorem bJ {s:Txt} {m:Man} (h:bG s=some m):manB m=true∧bu m=s:=by
 unfold bG at h;split at h
 ·rename_i hc;cases h;exact hc
 ·cases h
def bn (m:Man):List Int:=m.ver::(m.segs.length:Int)::m.segs++[m.size]
theorem kn (m:Man):(bn m).length=m.segs.length+3:=by simp[bn]
theorem EJ (m:Man):(bn m)[1]?=some (m.segs.length:Int):=rfl
theorem eR (m:Man):aU m=aN (bn m)++co (eY m):=rfl
theorem uI {m:Man} (h:manB m=true):∀ v∈bn m,0<=v∧v<9223372036854775808:=by
 obtain⟨h1,h2,h3,h4⟩:=d5 h;have hin:=db _ _ h3;intro v hv;simp only[bn,List.cons_append,List.mem_cons,zX,List.mem_nil_iff,or_false] at hv;rcases hv with rfl|rfl|hv|rfl
 ·omega
 ·omega
 ·have:=hin v hv;omega
 ·omega
theorem mJ (x:Int) (r:List Int):aN (x::r)=au x.toNat++aN r:=by simp[aN]
theorem qp {m:Man} (h:manB m=true) (j:Nat) (hj:j<(bn m).length):i7 ((aU m).drop (aN ((bn m).take j)).length) 0 0=some ((bn m)[j].toNat,nd (bn m)[j].toNat)∧(aN ((bn m).take (j+1))).length=(aN ((bn m).take j)).length+nd (bn m)[j].toNat:=by
 have hv:=uI h _ (zN hj);have e:aU m=aN ((bn m).take j)++(au (bn m)[j].toNat++(aN ((bn m).drop (j+1))++co (eY m))):=by
  have e2:bn m=(bn m).take j++(bn m)[j]::(bn m).drop (j+1):=by rw[<- zD hj,zY]
  have e3:aN (bn m)=aN ((bn m).take j)++(au (bn m)[j].toNat++aN ((bn m).drop (j+1))):=by
   conv=>lhs;rw[e2]
   rw[gQ,mJ]
  rw[eR,e3];simp
 constructor
 ·rw[e,List.drop_left];exact ug _ _ (by omega)
 ·rw[zO hj,gQ,zA];simp[aN];rfl
theorem Ik {m:Man} (j:Nat) (hj:j<=(bn m).length):(aN ((bn m).take j)).length+4<=(aU m).length:=by
 have:aN (bn m)=aN ((bn m).take j)++aN ((bn m).drop j):=by rw[<- gQ,zY]
 rw[eR,this];simp[cH]
def cO:List L:=[zI 0,.d (.l []),zI 0,zW 0]
def kd (m:Man):V:=.tup [(true,m.l),(false,[zI 0])]
def dG (e:Int):V:=.tup [(true,cO),(false,[zI e])]
def f9 (q:List Int) (x:Int):Man:=⟨q.headD 0,(q.drop 2).take (q.length-1-2),q.getLastD 0,x⟩
theorem yf {m:Man}:f9 (bn m) m.sum=m:=by
 obtain⟨v,sg,z,x⟩:=m;have e:(bn ⟨v,sg,z,x⟩).getLastD 0=z:=by
  show((v::(sg.length:Int)::sg)++[z]).getLastD 0=z;rw[List.getLastD_concat]
 unfold f9;rw[e];simp[bn]
theorem ic (q:List Int) (j:Nat) (h:j<q.length):(q.map eI)[j]?=some [.i .i64 q[j]]:=by rw[zG,zE h];rfl
def gx (b:Txt) (i:Nat):Int:=((b[i]?.getD 0).toNat:Nat)
theorem tS (b:Txt) (i:Nat):0<=gx b i∧gx b i<256:=by
 have:=UInt8.toNat_lt (b[i]?.getD 0);unfold gx;omega
def bO (b:Txt) (a:Nat):Nat->Int
 | 0=>gx b (a+3)*16777216+gx b (a+2)*65536+gx b (a+1)*256+gx b a
 | 1=>gx b (a+3)*65536+gx b (a+2)*256+gx b (a+1)
 | 2=>gx b (a+3)*256+gx b (a+2)
 | 3=>gx b (a+3)
 | _=>0
theorem cY (b:Txt) (a j:Nat):0<=bO b a j∧bO b a j<4294967296:=by
 have h0:=tS b a;have h1:=tS b (a+1);have h2:=tS b (a+2);have h3:=tS b (a+3);unfold bO;split <;> omega
theorem rN {m:Man} (h:manB m=true) (hm:m.ok):bO (aU m) (aN (bn m)).length 0=m.sum:=by
 have e:∀ i,i<4->(aU m)[(aN (bn m)).length+i]?=(co (eY m))[i]?:=by
  intro i hi;rw[eR,List.getElem?_append_right (by omega)]
  congr 1;omega
 have hs:=oj (eY m);rw[uH hm] at hs;have e0:=e 0 (by decide)
 have e1:=e 1 (by decide)
 have e2:=e 2 (by decide)
 have e3:=e 3 (by decide)
 rw[Nat.add_zero] at e0;obtain⟨b0,b1,b2,b3,hf⟩:∃ b0 b1 b2 b3,co (eY m)=[b0,b1,b2,b3]:=⟨_,_,_,_,rfl⟩;rw[hf] at hs e0 e1 e2 e3;simp only[lS] at hs;unfold bO gx;rw[e0,e1,e2,e3];simp only[List.getElem?_cons_zero,List.getElem?_cons_succ,Option.getD_some];omega
theorem xE (s:Txt) (hs:s.length<=1000000) (hok:∀ m,bG s=some m->m.ok):∃ Z,call 29 [vs s] []=some (Z,[])∧(∀ m,bG s=some m->Z=kd m)∧(bG s=none->∃ e,e≠0∧Z=dG e):=by
 have q0:=nT s 0 (by decide) (by omega)
 have z0:((0:Nat):Int)=0:=rfl;rw[z0] at q0;have hdm:∀ m,bG s=some m->bY s 0=(aU m,s.length,0):=fun m h=>by
  have:=bJ h;have h2:=qw this.1;rw[this.2] at h2;exact h2
 have hbl:=jR s 0;obtain⟨⟨b,nx,e⟩,hnx⟩:∃ r,r=bY s 0:=⟨_,rfl⟩;rw[<- hnx] at q0 hdm hbl;simp only[cu] at q0 hbl;by_cases he:e=0
 ·subst he;have hdb:∀ m,bG s=some m->b=aU m:=fun m h=>by have:=hdm m h;cases this;rfl
  refine⟨match bG s with|some m=>kd m|none=>dG 3,?_,fun m h=>by rw[h],fun h=>⟨3,by decide,by rw[h]⟩⟩
  generalize hZ:(match bG s with|some m=>kd m|none=>dG 3)=Z
  have hZn:bG s=none->Z=dG 3:=fun h=>by rw[<- hZ,h]
  have hZs:∀ m,bG s=some m->Z=kd m:=fun m h=>by rw[<- hZ,h]
  clear hZ hdm;apply ah NH rfl;(simp(disch:=first|decide|omega|(intros;exact aj rfl rfl)|simp only[aa]) only[aH,oB,q0,go_sem,seval,ai])
  refine aE (m:=0) (σ:=List Int × Nat) (fun t=>200-t.1.length) (fun t=>t.1.length<=100∧t.2<=b.length∧(∀ v∈t.1,0<=v∧v<9223372036854775808)∧∀ m,bG s=some m->t.1.length<(bn m).length∧t.1=(bn m).take t.1.length∧t.2=(aN ((bn m).take t.1.length)).length)
   (fun t=>[vs s,V.one (.p 0 0),vs b,V.one (.sl 1 1 0 t.1.length),vi t.2]) (fun t=>[.cells [zI 0,.ns,zI 0,zW 0],.arr 1 (t.1.map eI) 0])
   (fun _=>(Z,[])) ?_ ([],0) ⟨by decide,zP _,fun v hv=>(by cases hv),fun m hm=>⟨by rw[kn];simp,rfl,rfl⟩⟩ _ _ bv
  rintro⟨L1,a1⟩ ⟨h1,h2,h3,h4⟩ R hR;simp only at h1 h2 h3 h4 ⊢;have q1:=dP b a1 (by omega) (by omega)
  have hml:(L1.map eI).length=L1.length:=by simp
  by_cases c1:a1<b.length
  ·by_cases c2:L1.length<100
   ·cases hrd:i7 (b.drop a1) 0 0 with
    | some r =>
     obtain⟨v,n⟩:=r;have hv9:=tG hrd;have hrl:=(dA hrd).2.1;rw[zH] at hrl;rw[hrd] at q1;simp only[iE] at q1;have hmap:L1.map eI++[[.i .i64 (v:Int)]]=(L1++[(v:Int)]).map eI:=by simp[eI]
     have hlen:L1.length+1=(L1++[(v:Int)]).length:=by simp
     have hbd:∀ w∈L1++[(v:Int)],0<=w∧w<9223372036854775808:=by
      intro w hw;rcases zX.1 hw with hw|hw
      ·exact h3 w hw
      ·rw[zV.1 hw];omega
     have hst:∀ m,bG s=some m->(L1++[(v:Int)]).length<=(bn m).length∧L1++[(v:Int)]=(bn m).take (L1++[(v:Int)]).length∧a1+n=(aN ((bn m).take (L1++[(v:Int)]).length)).length:=by
      intro m hm;obtain⟨p1,p2,p3⟩:=h4 m hm;have hmr:=qp (bJ hm).1 L1.length p1;have hin:=uI (bJ hm).1 _ (zN p1);rw[<- hdb m hm,<- p3,hrd] at hmr;have e1:=hmr.1;simp only[Option.some.injEq,Prod.mk.injEq] at e1;rw[<- hlen];refine⟨by omega,?_,?_⟩
      ·rw[zO p1,<- p2];congr 2;omega
      ·rw[hmr.2];omega
     by_cases c3:3<=(L1++[(v:Int)]).length∧(((L1++[(v:Int)]).length:Nat):Int)=(L1++[(v:Int)]).getD 1 0+3
     ·have hT:∀ m,bG s=some m->L1++[(v:Int)]=bn m∧a1+n=(aN (bn m)).length:=by
       intro m hm;obtain⟨p1,p2,p3⟩:=hst m hm;have e1:(L1++[(v:Int)]).getD 1 0=(m.segs.length:Int):=by
        rw[p2,List.getD_eq_getElem?_getD,List.getElem?_take_of_lt (by omega),EJ];rfl
       rw[e1] at c3;have e2:(L1++[(v:Int)]).length=(bn m).length:=by rw[kn];omega
       rw[e2,List.take_length] at p2 p3;exact⟨p2,p3⟩
      obtain⟨Q,hQ⟩:∃ Q,Q=L1++[(v:Int)]:=⟨_,rfl⟩;obtain⟨a,ha⟩:∃ a,a=a1+n:=⟨_,rfl⟩;rw[<- hQ] at hmap hlen hbd c3 hT;rw[<- ha] at hT q1;have hQb:Q.length<=101:=by omega
      have hab:a<=b.length:=by omega
      clear hst hR h4 hQ hrd;have g1:(Q.map eI)[1]?=some [.i .i64 (Q.getD 1 0)]:=by rw[ic Q 1 (by omega),List.getD_eq_getElem?_getD,zE (by omega)];rfl
      have c3a:(3:Int)<=(Q.length:Int):=by omega
      have hgd:=hbd _ (zN (show 1<Q.length by omega))
      have hgd2:0<=Q.getD 1 0∧Q.getD 1 0<=1000:=by omega
      obtain⟨W,hW⟩:∃ W,W=Q.getD 1 0:=⟨_,rfl⟩;rw[<- hW] at g1 c3 hgd2;have c6:¬ (Q.length:Int)<3:=by omega
      have c7:(Q.length:Int)=W+3:=by omega
      by_cases t3:(b.length:Int)-(a:Int)=4
      ·have g0:(Q.map eI)[0]?=some [.i .i64 (Q.headD 0)]:=by rw[ic Q 0 (by omega)];cases Q with|nil=>simp at c3|cons x r=>rfl
       have hQl:Q.length-1<Q.length:=by omega
       have gz:(Q.map eI)[Q.length-1]?=some [.i .i64 (Q.getLastD 0)]:=by
        rw[ic Q _ hQl];rw[List.getLastD_eq_getLast?,List.getLast?_eq_getElem?,zE hQl];rfl
       have ek:((Q.length:Int)-1).toNat=Q.length-1:=by omega
       have htd:List.take (Q.length-1-2) (List.drop 2 (Q.map eI))=((Q.drop 2).take (Q.length-1-2)).map eI:=by rw[List.map_take,List.map_drop]
       obtain⟨qh,hqh⟩:∃ qh,qh=Q.headD 0:=⟨_,rfl⟩;obtain⟨ql,hql⟩:∃ ql,ql=Q.getLastD 0:=⟨_,rfl⟩;rw[<- hqh] at g0;rw[<- hql] at gz;have ek2:Q.length-1-2=Q.length-3:=by omega
       (simp(disch:=first|decide|omega|(intros;exact aj rfl rfl)|simp only[aa]) only[aH,ft,oB,q1,hmap,hml,hlen,c1,c2,c3a,c6,eq_true c7,g1,zT t3,g0,gz,ek,go_sem,seval,ai,bg,A.kind,A.xs,aG,A.isN])
       refine aE (m:=0) (σ:=Nat) (fun j=>j) (fun j=>j<=4) (fun j=>[vs s,V.one (.p 0 0),vs b,vi a,V.one (.p 1 0),vi ((j:Int)-1)])
        (fun j=>[.cells [zI 0,.ns,zI 0,zW 0],.cells [zI qh,.sl 2 1 2 (Q.length-1-2),zI ql,zW (bO b a j)],.arr 1 (Q.map eI) 0]) (fun _=>(Z,[])) ?_ 4 (Nat.le_refl _) _ _ bv
       clear q1 g1 g0 gz hmap;intro j hj K hK;have hsb:=cY b a j;rcases(by omega:j=0∨j=1∨j=2∨j=3∨j=4) with rfl|rfl|rfl|rfl|rfl
       ·obtain⟨ac,hac⟩:∃ ac,ac=bO b a 0:=⟨_,rfl⟩;rw[<- hac] at hsb ⊢;have hMe:(f9 Q ac).l=[zI qh,.d (.l (((Q.drop 2).take (Q.length-1-2)).map eI)),zI ql,zW ac]:=by rw[hqh,hql];rfl
        have hMo:(f9 Q ac).ok:=⟨by simp[f9];omega,hsb⟩
        have g1:=gM (f9 Q ac) hMo;rw[hMe] at g1;have bv:∀ m,bG s=some m->f9 Q ac=m:=fun m h=>by
         obtain⟨p1,p2⟩:=hT m h;rw[hac,p2,hdb m h,rN (bJ h).1 (hok m h),p1,yf]
        have hmx:max 0 (2+(Q.length-1-2))<=Q.length:=by omega
        have hle:2+(Q.length-1-2)<=Q.length:=by omega
        by_cases k1:manB (f9 Q ac)=true
        ·have hmp:aX (f9 Q ac)=(bu (f9 Q ac),0):=by unfold aX;rw[if_pos k1]
         rw[hmp] at g1;simp only at g1;by_cases k2:bu (f9 Q ac)=s
         ·have hd:bG s=some (f9 Q ac):=by
           have:=nb k1 hMo;rw[k2] at this;exact this
          rw[hZs _ hd];have k3:(bu (f9 Q ac) == s)=true:=by simpa using k2
          unfold kd;rw[hMe];rw[k2] at g1;generalize f9 Q ac=MM at *;(simp(disch:=first|decide|omega|(intros;exact aj rfl rfl)|simp only[aa]) only[aH,dy,oB,g1,htd,zM,go_sem,seval,ai,bg,A.kind,A.xs,aG,A.isN])
          try simp[trim]
         ·have hd:bG s=none:=by
           cases hd:bG s with
           | none=>rfl
           | some m=>exact absurd (by rw[bv m hd];exact(bJ hd).2) k2
          rw[hZn hd];have k3:(bu (f9 Q ac) == s)=false:=by simpa using k2
          generalize bu (f9 Q ac)=TT at *;generalize f9 Q ac=MM at *;(simp(disch:=first|decide|omega|(intros;exact aj rfl rfl)|simp only[aa]) only[aH,dy,oB,g1,htd,k3,zM,go_sem,seval,ai,bg,A.kind,A.xs,aG,A.isN])
          try simp[trim,dG,cO]
        ·have hmp:aX (f9 Q ac)=([],1):=by unfold aX;rw[if_neg k1]
         rw[hmp] at g1;simp only at g1;have hd:bG s=none:=by
          cases hd:bG s with
          | none=>rfl
          | some m=>exact absurd (by rw[bv m hd];exact(bJ hd).1) k1
         rw[hZn hd];generalize f9 Q ac=MM at *;(simp(disch:=first|decide|omega|(intros;exact aj rfl rfl)|simp only[aa]) only[aH,dy,oB,g1,htd,zM,go_sem,seval,ai,bg,A.kind,A.xs,aG,A.isN])
         try simp[trim,dG,cO]
       ·have hbi:a<b.length:=by omega
        have gb:b[a]?=some b[a]:=zE hbi;have hu:gx b (a)=((b[a].toNat:Nat):Int):=by unfold gx;rw[gb];rfl
        have hul:=UInt8.toNat_lt b[a];have e1:bO b a 0=bO b a 1*256+gx b (a):=by simp only[bO];try omega
        have hsb2:=cY b a 0;have hei:((a:Int)+0).toNat=a:=by omega
        have hK':=hK 0 (by decide) (by omega)
        rw[e1] at hK' hsb2;rw[hu] at hK' hsb2;generalize b[a]=bx at *;generalize bO b a 1=ac at *;clear e1 hu;(simp(disch:=first|decide|omega|(intros;exact aj rfl rfl)|simp only[aa]) only[aH,dy,hei,gb,zM,go_sem,seval,ai,bg,A.kind,A.xs,aG,A.isN])
        exact hK' _ _ bv
       ·have hbi:a+1<b.length:=by omega
        have gb:b[a+1]?=some b[a+1]:=zE hbi;have hu:gx b (a+1)=((b[a+1].toNat:Nat):Int):=by unfold gx;rw[gb];rfl
        have hul:=UInt8.toNat_lt b[a+1];have e1:bO b a 1=bO b a 2*256+gx b (a+1):=by simp only[bO];try omega
        have hsb2:=cY b a 1;have hei:((a:Int)+1).toNat=a+1:=by omega
        have hK':=hK 1 (by decide) (by omega)
        rw[e1] at hK' hsb2;rw[hu] at hK' hsb2;generalize b[a+1]=bx at *;generalize bO b a 2=ac at *;clear e1 hu;(simp(disch:=first|decide|omega|(intros;exact aj rfl rfl)|simp only[aa]) only[aH,dy,hei,gb,zM,go_sem,seval,ai,bg,A.kind,A.xs,aG,A.isN])
        exact hK' _ _ bv
       ·have hbi:a+2<b.length:=by omega
        have gb:b[a+2]?=some b[a+2]:=zE hbi;have hu:gx b (a+2)=((b[a+2].toNat:Nat):Int):=by unfold gx;rw[gb];rfl
        have hul:=UInt8.toNat_lt b[a+2];have e1:bO b a 2=bO b a 3*256+gx b (a+2):=by simp only[bO];try omega
        have hsb2:=cY b a 2;have hei:((a:Int)+2).toNat=a+2:=by omega
        have hK':=hK 2 (by decide) (by omega)
        rw[e1] at hK' hsb2;rw[hu] at hK' hsb2;generalize b[a+2]=bx at *;generalize bO b a 3=ac at *;clear e1 hu;(simp(disch:=first|decide|omega|(intros;exact aj rfl rfl)|simp only[aa]) only[aH,dy,hei,gb,zM,go_sem,seval,ai,bg,A.kind,A.xs,aG,A.isN])
        exact hK' _ _ bv
       ·have hbi:a+3<b.length:=by omega
        have gb:b[a+3]?=some b[a+3]:=zE hbi;have hu:gx b (a+3)=((b[a+3].toNat:Nat):Int):=by unfold gx;rw[gb];rfl
        have hul:=UInt8.toNat_lt b[a+3];have e1:bO b a 3=bO b a 4*256+gx b (a+3):=by simp only[bO];try omega
        have hsb2:=cY b a 3;have hei:((a:Int)+3).toNat=a+3:=by omega
        have hK':=hK 3 (by decide) (by omega)
        rw[e1] at hK' hsb2;rw[hu] at hK' hsb2;generalize b[a+3]=bx at *;generalize bO b a 4=ac at *;clear e1 hu;(simp(disch:=first|decide|omega|(intros;exact aj rfl rfl)|simp only[aa]) only[aH,dy,hei,gb,zM,go_sem,seval,ai,bg,A.kind,A.xs,aG,A.isN])
        exact hK' _ _ bv
      ·have hno:bG s=none:=by
        cases hd:bG s with
        | none=>rfl
        | some m =>
         exfalso;obtain⟨p1,p2⟩:=hT m hd;have:=hdb m hd;rw[this,eR,zA,cH,p2] at t3;omega
       rw[hZn hno];(simp(disch:=first|decide|omega|(intros;exact aj rfl rfl)|simp only[aa]) only[aH,ft,oB,q1,hmap,hml,hlen,c1,c2,c3a,c6,eq_true c7,g1,zF t3,go_sem,seval,ai,bg,A.kind,A.xs,aG,A.isN])
       try simp[trim,dG,cO]
     ·have hR':=hR (L1++[(v:Int)],a1+n) (by simp;omega) ⟨by simp;omega,by simp only[];omega,hbd,fun m hm=>by
       obtain⟨p1,p2,p3⟩:=hst m hm;refine⟨?_,p2,p3⟩;simp only[];rcases Nat.lt_or_ge (L1++[(v:Int)]).length (bn m).length with h|h
       ·exact h
       ·exfalso;have e2:(L1++[(v:Int)]).length=(bn m).length:=by omega
        apply c3;rw[kn] at e2;refine⟨by omega,?_⟩
        have e1:(L1++[(v:Int)]).getD 1 0=(m.segs.length:Int):=by
         rw[p2,List.getD_eq_getElem?_getD,List.getElem?_take_of_lt (by omega),EJ];rfl
        rw[e1,e2];omega⟩
      obtain⟨Q,hQ⟩:∃ Q,Q=L1++[(v:Int)]:=⟨_,rfl⟩;rw[<- hQ] at hmap hlen hbd c3 hR';by_cases c4:3<=Q.length
      ·have c5:¬ ((Q.length:Int)=Q.getD 1 0+3):=fun h=>c3 ⟨c4,h⟩
       have g1:(Q.map eI)[1]?=some [.i .i64 (Q.getD 1 0)]:=by rw[ic Q 1 (by omega),List.getD_eq_getElem?_getD,zE (by omega)];rfl
       have c3a:(3:Int)<=(Q.length:Int):=by omega
       have hgd:=hbd _ (zN (show 1<Q.length by omega))
       have hgd2:Q.getD 1 0=Q[1]:=by rw[List.getD_eq_getElem?_getD,zE (by omega)];rfl
       obtain⟨W,hW⟩:∃ W,W=Q.getD 1 0:=⟨_,rfl⟩;rw[<- hW] at g1 c5 hgd2;by_cases hwr:W+3<9223372036854775808
       ·(simp(disch:=first|decide|omega|(intros;exact aj rfl rfl)|simp only[aa]) only[aH,ft,q1,hmap,hml,hlen,c1,c2,c3a,c5,g1,go_sem,seval,ai,bg,A.kind,A.xs,aG,A.isN])
        exact hR' _ _ bv
       ·obtain⟨W3,hW3,hW4⟩:∃ W3:Int,IntKind.i64.wrap (W+3)=W3∧W3<0:=by
         refine⟨_,rfl,?_⟩;rw[IntWalk.i64_left];unfold RowKit.wrap64;omega
        have c5':¬ (Q.length:Int)=W3:=by omega
        (simp(disch:=first|decide|omega|(intros;exact aj rfl rfl)|simp only[aa]) only[aH,ft,q1,hmap,hml,hlen,c1,c2,c3a,hW3,c5',g1,go_sem,seval,ai,bg,A.kind,A.xs,aG,A.isN])
        exact hR' _ _ bv
      ·have c4':¬ (3:Int)<=(Q.length:Int):=by omega
       (simp(disch:=first|decide|omega|(intros;exact aj rfl rfl)|simp only[aa]) only[aH,ft,q1,hmap,hml,hlen,c1,c2,c4',go_sem,seval,ai,bg,A.kind,A.xs,aG,A.isN])
       exact hR' _ _ bv
    | none =>
     have hno:bG s=none:=by
      cases hd:bG s with
      | none=>rfl
      | some m =>
       exfalso;obtain⟨p1,p2,p3⟩:=h4 m hd;have hmr:=(qp (bJ hd).1 L1.length p1).1;rw[<- hdb m hd,<- p3,hrd] at hmr;cases hmr
     rw[hrd] at q1;simp only[iE] at q1;obtain⟨Q,hQ⟩:∃ Q,Q=L1:=⟨_,rfl⟩;obtain⟨a,ha⟩:∃ a,a=a1:=⟨_,rfl⟩;rw[<- hQ] at h1 h3 hml ⊢;rw[<- ha] at h2 ⊢;rw[<- hQ] at c2;rw[<- ha] at c1 hrd q1;have hT:∀ m,bG s=some m->Q=bn m∧a=(aN (bn m)).length:=fun m h=>by rw[hno] at h;cases h
     have hQb:Q.length<=101:=by omega
     have hab:a<=b.length:=h2;have hbd:=h3;clear hR h4;by_cases t1:Q.length<3
     ·have t1':(Q.length:Int)<3:=by omega
      rw[hZn hno];(simp(disch:=first|decide|omega|(intros;exact aj rfl rfl)|simp only[aa]) only[aH,ft,oB,q1,c1,c2,t1',hml,go_sem,seval,ai,bg,A.kind,A.xs,aG,A.isN])
      try simp[trim,dG,cO]
     ·have c6:¬ (Q.length:Int)<3:=by omega
      have g1:(Q.map eI)[1]?=some [.i .i64 (Q.getD 1 0)]:=by rw[ic Q 1 (by omega),List.getD_eq_getElem?_getD,zE (by omega)];rfl
      have hgd:=hbd _ (zN (show 1<Q.length by omega))
      have hgd2:Q.getD 1 0=Q[1]:=by rw[List.getD_eq_getElem?_getD,zE (by omega)];rfl
      obtain⟨W,hW⟩:∃ W,W=Q.getD 1 0:=⟨_,rfl⟩;rw[<- hW] at g1 hgd2;by_cases t2:(Q.length:Int)=W+3
      ·have c3:3<=Q.length∧(Q.length:Int)=W+3:=⟨by omega,t2⟩
       have hgd3:0<=W∧W<=1000:=by omega
       have c6:¬ (Q.length:Int)<3:=by omega
       have c7:(Q.length:Int)=W+3:=by omega
       by_cases t3:(b.length:Int)-(a:Int)=4
       ·have g0:(Q.map eI)[0]?=some [.i .i64 (Q.headD 0)]:=by rw[ic Q 0 (by omega)];cases Q with|nil=>simp at c3|cons x r=>rfl
        have hQl:Q.length-1<Q.length:=by omega
        have gz:(Q.map eI)[Q.length-1]?=some [.i .i64 (Q.getLastD 0)]:=by
         rw[ic Q _ hQl];rw[List.getLastD_eq_getLast?,List.getLast?_eq_getElem?,zE hQl];rfl
        have ek:((Q.length:Int)-1).toNat=Q.length-1:=by omega
        have htd:List.take (Q.length-1-2) (List.drop 2 (Q.map eI))=((Q.drop 2).take (Q.length-1-2)).map eI:=by rw[List.map_take,List.map_drop]
        obtain⟨qh,hqh⟩:∃ qh,qh=Q.headD 0:=⟨_,rfl⟩;obtain⟨ql,hql⟩:∃ ql,ql=Q.getLastD 0:=⟨_,rfl⟩;rw[<- hqh] at g0;rw[<- hql] at gz;have ek2:Q.length-1-2=Q.length-3:=by omega
        (simp(disch:=first|decide|omega|(intros;exact aj rfl rfl)|simp only[aa]) only[aH,ft,oB,q1,c1,c2,hml,c6,eq_true c7,g1,zT t3,g0,gz,ek,go_sem,seval,ai,bg,A.kind,A.xs,aG,A.isN])
        refine aE (m:=0) (σ:=Nat) (fun j=>j) (fun j=>j<=4) (fun j=>[vs s,V.one (.p 0 0),vs b,vi a,V.one (.p 1 0),vi ((j:Int)-1)])
         (fun j=>[.cells [zI 0,.ns,zI 0,zW 0],.cells [zI qh,.sl 2 1 2 (Q.length-1-2),zI ql,zW (bO b a j)],.arr 1 (Q.map eI) 0]) (fun _=>(Z,[])) ?_ 4 (Nat.le_refl _) _ _ bv
        clear g1 g0 gz;intro j hj K hK;have hsb:=cY b a j;rcases(by omega:j=0∨j=1∨j=2∨j=3∨j=4) with rfl|rfl|rfl|rfl|rfl
        ·obtain⟨ac,hac⟩:∃ ac,ac=bO b a 0:=⟨_,rfl⟩;rw[<- hac] at hsb ⊢;have hMe:(f9 Q ac).l=[zI qh,.d (.l (((Q.drop 2).take (Q.length-1-2)).map eI)),zI ql,zW ac]:=by rw[hqh,hql];rfl
         have hMo:(f9 Q ac).ok:=⟨by simp[f9];omega,hsb⟩
         have g1:=gM (f9 Q ac) hMo;rw[hMe] at g1;have bv:∀ m,bG s=some m->f9 Q ac=m:=fun m h=>by
          obtain⟨p1,p2⟩:=hT m h;rw[hac,p2,hdb m h,rN (bJ h).1 (hok m h),p1,yf]
         have hmx:max 0 (2+(Q.length-1-2))<=Q.length:=by omega
         have hle:2+(Q.length-1-2)<=Q.length:=by omega
         by_cases k1:manB (f9 Q ac)=true
         ·have hmp:aX (f9 Q ac)=(bu (f9 Q ac),0):=by unfold aX;rw[if_pos k1]
          rw[hmp] at g1;simp only at g1;by_cases k2:bu (f9 Q ac)=s
          ·have hd:bG s=some (f9 Q ac):=by
            have:=nb k1 hMo;rw[k2] at this;exact this
           rw[hZs _ hd];have k3:(bu (f9 Q ac) == s)=true:=by simpa using k2
           unfold kd;rw[hMe];rw[k2] at g1;generalize f9 Q ac=MM at *;(simp(disch:=first|decide|omega|(intros;exact aj rfl rfl)|simp only[aa]) only[aH,dy,oB,g1,htd,zM,go_sem,seval,ai,bg,A.kind,A.xs,aG,A.isN])
           try simp[trim]
          ·have hd:bG s=none:=by
            cases hd:bG s with
            | none=>rfl
            | some m=>exact absurd (by rw[bv m hd];exact(bJ hd).2) k2
           rw[hZn hd];have k3:(bu (f9 Q ac) == s)=false:=by simpa using k2
           generalize bu (f9 Q ac)=TT at *;generalize f9 Q ac=MM at *;(simp(disch:=first|decide|omega|(intros;exact aj rfl rfl)|simp only[aa]) only[aH,dy,oB,g1,htd,k3,zM,go_sem,seval,ai,bg,A.kind,A.xs,aG,A.isN])
           try simp[trim,dG,cO]
         ·have hmp:aX (f9 Q ac)=([],1):=by unfold aX;rw[if_neg k1]
          rw[hmp] at g1;simp only at g1;have hd:bG s=none:=by
           cases hd:bG s with
           | none=>rfl
           | some m=>exact absurd (by rw[bv m hd];exact(bJ hd).1) k1
          rw[hZn hd];generalize f9 Q ac=MM at *;(simp(disch:=first|decide|omega|(intros;exact aj rfl rfl)|simp only[aa]) only[aH,dy,oB,g1,htd,zM,go_sem,seval,ai,bg,A.kind,A.xs,aG,A.isN])
          try simp[trim,dG,cO]
        ·have hbi:a<b.length:=by omega
         have gb:b[a]?=some b[a]:=zE hbi;have hu:gx b (a)=((b[a].toNat:Nat):Int):=by unfold gx;rw[gb];rfl
         have hul:=UInt8.toNat_lt b[a];have e1:bO b a 0=bO b a 1*256+gx b (a):=by simp only[bO];try omega
         have hsb2:=cY b a 0;have hei:((a:Int)+0).toNat=a:=by omega
         have hK':=hK 0 (by decide) (by omega)
         rw[e1] at hK' hsb2;rw[hu] at hK' hsb2;generalize b[a]=bx at *;generalize bO b a 1=ac at *;clear e1 hu;(simp(disch:=first|decide|omega|(intros;exact aj rfl rfl)|simp only[aa]) only[aH,dy,hei,gb,zM,go_sem,seval,ai,bg,A.kind,A.xs,aG,A.isN])
         exact hK' _ _ bv
        ·have hbi:a+1<b.length:=by omega
         have gb:b[a+1]?=some b[a+1]:=zE hbi;have hu:gx b (a+1)=((b[a+1].toNat:Nat):Int):=by unfold gx;rw[gb];rfl
         have hul:=UInt8.toNat_lt b[a+1];have e1:bO b a 1=bO b a 2*256+gx b (a+1):=by simp only[bO];try omega
         have hsb2:=cY b a 1;have hei:((a:Int)+1).toNat=a+1:=by omega
         have hK':=hK 1 (by decide) (by omega)
         rw[e1] at hK' hsb2;rw[hu] at hK' hsb2;generalize b[a+1]=bx at *;generalize bO b a 2=ac at *;clear e1 hu;(simp(disch:=first|decide|omega|(intros;exact aj rfl rfl)|simp only[aa]) only[aH,dy,hei,gb,zM,go_sem,seval,ai,bg,A.kind,A.xs,aG,A.isN])
         exact hK' _ _ bv
        ·have hbi:a+2<b.length:=by omega
         have gb:b[a+2]?=some b[a+2]:=zE hbi;have hu:gx b (a+2)=((b[a+2].toNat:Nat):Int):=by unfold gx;rw[gb];rfl
         have hul:=UInt8.toNat_lt b[a+2];have e1:bO b a 2=bO b a 3*256+gx b (a+2):=by simp only[bO];try omega
         have hsb2:=cY b a 2;have hei:((a:Int)+2).toNat=a+2:=by omega
         have hK':=hK 2 (by decide) (by omega)
         rw[e1] at hK' hsb2;rw[hu] at hK' hsb2;generalize b[a+2]=bx at *;generalize bO b a 3=ac at *;clear e1 hu;(simp(disch:=first|decide|omega|(intros;exact aj rfl rfl)|simp only[aa]) only[aH,dy,hei,gb,zM,go_sem,seval,ai,bg,A.kind,A.xs,aG,A.isN])
         exact hK' _ _ bv
        ·have hbi:a+3<b.length:=by omega
         have gb:b[a+3]?=some b[a+3]:=zE hbi;have hu:gx b (a+3)=((b[a+3].toNat:Nat):Int):=by unfold gx;rw[gb];rfl
         have hul:=UInt8.toNat_lt b[a+3];have e1:bO b a 3=bO b a 4*256+gx b (a+3):=by simp only[bO];try omega
         have hsb2:=cY b a 3;have hei:((a:Int)+3).toNat=a+3:=by omega
         have hK':=hK 3 (by decide) (by omega)
         rw[e1] at hK' hsb2;rw[hu] at hK' hsb2;generalize b[a+3]=bx at *;generalize bO b a 4=ac at *;clear e1 hu;(simp(disch:=first|decide|omega|(intros;exact aj rfl rfl)|simp only[aa]) only[aH,dy,hei,gb,zM,go_sem,seval,ai,bg,A.kind,A.xs,aG,A.isN])
         exact hK' _ _ bv
       ·have hno:bG s=none:=by
         cases hd:bG s with
         | none=>rfl
         | some m =>
          exfalso;obtain⟨p1,p2⟩:=hT m hd;have:=hdb m hd;rw[this,eR,zA,cH,p2] at t3;omega
        rw[hZn hno];(simp(disch:=first|decide|omega|(intros;exact aj rfl rfl)|simp only[aa]) only[aH,ft,oB,q1,c1,c2,hml,c6,eq_true c7,g1,zF t3,go_sem,seval,ai,bg,A.kind,A.xs,aG,A.isN])
        try simp[trim,dG,cO]
      ·rw[hZn hno];by_cases hwr:W+3<9223372036854775808
       ·(simp(disch:=first|decide|omega|(intros;exact aj rfl rfl)|simp only[aa]) only[aH,ft,oB,q1,c1,c2,c6,t2,g1,hml,go_sem,seval,ai,bg,A.kind,A.xs,aG,A.isN])
        try simp[trim,dG,cO]
       ·obtain⟨W3,hW3,hW4⟩:∃ W3:Int,IntKind.i64.wrap (W+3)=W3∧W3<0:=by
         refine⟨_,rfl,?_⟩;rw[IntWalk.i64_left];unfold RowKit.wrap64;omega
        have c5':¬ (Q.length:Int)=W3:=by omega
        (simp(disch:=first|decide|omega|(intros;exact aj rfl rfl)|simp only[aa]) only[aH,ft,oB,q1,c1,c2,c6,hW3,c5',g1,hml,go_sem,seval,ai,bg,A.kind,A.xs,aG,A.isN])
        try simp[trim,dG,cO]
   ·have hno:bG s=none:=by
     cases hd:bG s with
     | none=>rfl
     | some m =>
      exfalso;obtain⟨p1,p2,p3⟩:=h4 m hd;have:=d5 (bJ hd).1;rw[kn] at p1;omega
    obtain⟨Q,hQ⟩:∃ Q,Q=L1:=⟨_,rfl⟩;obtain⟨a,ha⟩:∃ a,a=a1:=⟨_,rfl⟩;rw[<- hQ] at h1 h3 hml ⊢;rw[<- ha] at h2 ⊢;rw[<- hQ] at c2;rw[<- ha] at c1;have hT:∀ m,bG s=some m->Q=bn m∧a=(aN (bn m)).length:=fun m h=>by rw[hno] at h;cases h
    have hQb:Q.length<=101:=by omega
    have hab:a<=b.length:=h2;have hbd:=h3;clear hR h4;by_cases t1:Q.length<3
    ·exfalso;omega
    ·have c6:¬ (Q.length:Int)<3:=by omega
     have g1:(Q.map eI)[1]?=some [.i .i64 (Q.getD 1 0)]:=by rw[ic Q 1 (by omega),List.getD_eq_getElem?_getD,zE (by omega)];rfl
     have hgd:=hbd _ (zN (show 1<Q.length by omega))
     have hgd2:Q.getD 1 0=Q[1]:=by rw[List.getD_eq_getElem?_getD,zE (by omega)];rfl
     obtain⟨W,hW⟩:∃ W,W=Q.getD 1 0:=⟨_,rfl⟩;rw[<- hW] at g1 hgd2;by_cases t2:(Q.length:Int)=W+3
     ·have c3:3<=Q.length∧(Q.length:Int)=W+3:=⟨by omega,t2⟩
      have hgd3:0<=W∧W<=1000:=by omega
      have c6:¬ (Q.length:Int)<3:=by omega
      have c7:(Q.length:Int)=W+3:=by omega
      by_cases t3:(b.length:Int)-(a:Int)=4
      ·have g0:(Q.map eI)[0]?=some [.i .i64 (Q.headD 0)]:=by rw[ic Q 0 (by omega)];cases Q with|nil=>simp at c3|cons x r=>rfl
       have hQl:Q.length-1<Q.length:=by omega
       have gz:(Q.map eI)[Q.length-1]?=some [.i .i64 (Q.getLastD 0)]:=by
        rw[ic Q _ hQl];rw[List.getLastD_eq_getLast?,List.getLast?_eq_getElem?,zE hQl];rfl
       have ek:((Q.length:Int)-1).toNat=Q.length-1:=by omega
       have htd:List.take (Q.length-1-2) (List.drop 2 (Q.map eI))=((Q.drop 2).take (Q.length-1-2)).map eI:=by rw[List.map_take,List.map_drop]
       obtain⟨qh,hqh⟩:∃ qh,qh=Q.headD 0:=⟨_,rfl⟩;obtain⟨ql,hql⟩:∃ ql,ql=Q.getLastD 0:=⟨_,rfl⟩;rw[<- hqh] at g0;rw[<- hql] at gz;have ek2:Q.length-1-2=Q.length-3:=by omega
       (simp(disch:=first|decide|omega|(intros;exact aj rfl rfl)|simp only[aa]) only[aH,ft,oB,c1,c2,hml,c6,eq_true c7,g1,zT t3,g0,gz,ek,go_sem,seval,ai,bg,A.kind,A.xs,aG,A.isN])
       refine aE (m:=0) (σ:=Nat) (fun j=>j) (fun j=>j<=4) (fun j=>[vs s,V.one (.p 0 0),vs b,vi a,V.one (.p 1 0),vi ((j:Int)-1)])
        (fun j=>[.cells [zI 0,.ns,zI 0,zW 0],.cells [zI qh,.sl 2 1 2 (Q.length-1-2),zI ql,zW (bO b a j)],.arr 1 (Q.map eI) 0]) (fun _=>(Z,[])) ?_ 4 (Nat.le_refl _) _ _ bv
       clear g1 g0 gz;intro j hj K hK;have hsb:=cY b a j;rcases(by omega:j=0∨j=1∨j=2∨j=3∨j=4) with rfl|rfl|rfl|rfl|rfl
       ·obtain⟨ac,hac⟩:∃ ac,ac=bO b a 0:=⟨_,rfl⟩;rw[<- hac] at hsb ⊢;have hMe:(f9 Q ac).l=[zI qh,.d (.l (((Q.drop 2).take (Q.length-1-2)).map eI)),zI ql,zW ac]:=by rw[hqh,hql];rfl
        have hMo:(f9 Q ac).ok:=⟨by simp[f9];omega,hsb⟩
        have g1:=gM (f9 Q ac) hMo;rw[hMe] at g1;have bv:∀ m,bG s=some m->f9 Q ac=m:=fun m h=>by
         obtain⟨p1,p2⟩:=hT m h;rw[hac,p2,hdb m h,rN (bJ h).1 (hok m h),p1,yf]
        have hmx:max 0 (2+(Q.length-1-2))<=Q.length:=by omega
        have hle:2+(Q.length-1-2)<=Q.length:=by omega
        by_cases k1:manB (f9 Q ac)=true
        ·have hmp:aX (f9 Q ac)=(bu (f9 Q ac),0):=by unfold aX;rw[if_pos k1]
         rw[hmp] at g1;simp only at g1;by_cases k2:bu (f9 Q ac)=s
         ·have hd:bG s=some (f9 Q ac):=by
           have:=nb k1 hMo;rw[k2] at this;exact this
          rw[hZs _ hd];have k3:(bu (f9 Q ac) == s)=true:=by simpa using k2
          unfold kd;rw[hMe];rw[k2] at g1;generalize f9 Q ac=MM at *;(simp(disch:=first|decide|omega|(intros;exact aj rfl rfl)|simp only[aa]) only[aH,dy,oB,g1,htd,zM,go_sem,seval,ai,bg,A.kind,A.xs,aG,A.isN])
          try simp[trim]
         ·have hd:bG s=none:=by
           cases hd:bG s with
           | none=>rfl
           | some m=>exact absurd (by rw[bv m hd];exact(bJ hd).2) k2
          rw[hZn hd];have k3:(bu (f9 Q ac) == s)=false:=by simpa using k2
          generalize bu (f9 Q ac)=TT at *;generalize f9 Q ac=MM at *;(simp(disch:=first|decide|omega|(intros;exact aj rfl rfl)|simp only[aa]) only[aH,dy,oB,g1,htd,k3,zM,go_sem,seval,ai,bg,A.kind,A.xs,aG,A.isN])
          try simp[trim,dG,cO]
        ·have hmp:aX (f9 Q ac)=([],1):=by unfold aX;rw[if_neg k1]
         rw[hmp] at g1;simp only at g1;have hd:bG s=none:=by
          cases hd:bG s with
          | none=>rfl
          | some m=>exact absurd (by rw[bv m hd];exact(bJ hd).1) k1
         rw[hZn hd];generalize f9 Q ac=MM at *;(simp(disch:=first|decide|omega|(intros;exact aj rfl rfl)|simp only[aa]) only[aH,dy,oB,g1,htd,zM,go_sem,seval,ai,bg,A.kind,A.xs,aG,A.isN])
         try simp[trim,dG,cO]
       ·have hbi:a<b.length:=by omega
        have gb:b[a]?=some b[a]:=zE hbi;have hu:gx b (a)=((b[a].toNat:Nat):Int):=by unfold gx;rw[gb];rfl
        have hul:=UInt8.toNat_lt b[a];have e1:bO b a 0=bO b a 1*256+gx b (a):=by simp only[bO];try omega
        have hsb2:=cY b a 0;have hei:((a:Int)+0).toNat=a:=by omega
        have hK':=hK 0 (by decide) (by omega)
        rw[e1] at hK' hsb2;rw[hu] at hK' hsb2;generalize b[a]=bx at *;generalize bO b a 1=ac at *;clear e1 hu;(simp(disch:=first|decide|omega|(intros;exact aj rfl rfl)|simp only[aa]) only[aH,dy,hei,gb,zM,go_sem,seval,ai,bg,A.kind,A.xs,aG,A.isN])
        exact hK' _ _ bv
       ·have hbi:a+1<b.length:=by omega
        have gb:b[a+1]?=some b[a+1]:=zE hbi;have hu:gx b (a+1)=((b[a+1].toNat:Nat):Int):=by unfold gx;rw[gb];rfl
        have hul:=UInt8.toNat_lt b[a+1];have e1:bO b a 1=bO b a 2*256+gx b (a+1):=by simp only[bO];try omega
        have hsb2:=cY b a 1;have hei:((a:Int)+1).toNat=a+1:=by omega
        have hK':=hK 1 (by decide) (by omega)
        rw[e1] at hK' hsb2;rw[hu] at hK' hsb2;generalize b[a+1]=bx at *;generalize bO b a 2=ac at *;clear e1 hu;(simp(disch:=first|decide|omega|(intros;exact aj rfl rfl)|simp only[aa]) only[aH,dy,hei,gb,zM,go_sem,seval,ai,bg,A.kind,A.xs,aG,A.isN])
        exact hK' _ _ bv
       ·have hbi:a+2<b.length:=by omega
        have gb:b[a+2]?=some b[a+2]:=zE hbi;have hu:gx b (a+2)=((b[a+2].toNat:Nat):Int):=by unfold gx;rw[gb];rfl
        have hul:=UInt8.toNat_lt b[a+2];have e1:bO b a 2=bO b a 3*256+gx b (a+2):=by simp only[bO];try omega
        have hsb2:=cY b a 2;have hei:((a:Int)+2).toNat=a+2:=by omega
        have hK':=hK 2 (by decide) (by omega)
        rw[e1] at hK' hsb2;rw[hu] at hK' hsb2;generalize b[a+2]=bx at *;generalize bO b a 3=ac at *;clear e1 hu;(simp(disch:=first|decide|omega|(intros;exact aj rfl rfl)|simp only[aa]) only[aH,dy,hei,gb,zM,go_sem,seval,ai,bg,A.kind,A.xs,aG,A.isN])
        exact hK' _ _ bv
       ·have hbi:a+3<b.length:=by omega
        have gb:b[a+3]?=some b[a+3]:=zE hbi;have hu:gx b (a+3)=((b[a+3].toNat:Nat):Int):=by unfold gx;rw[gb];rfl
        have hul:=UInt8.toNat_lt b[a+3];have e1:bO b a 3=bO b a 4*256+gx b (a+3):=by simp only[bO];try omega
        have hsb2:=cY b a 3;have hei:((a:Int)+3).toNat=a+3:=by omega
        have hK':=hK 3 (by decide) (by omega)
        rw[e1] at hK' hsb2;rw[hu] at hK' hsb2;generalize b[a+3]=bx at *;generalize bO b a 4=ac at *;clear e1 hu;(simp(disch:=first|decide|omega|(intros;exact aj rfl rfl)|simp only[aa]) only[aH,dy,hei,gb,zM,go_sem,seval,ai,bg,A.kind,A.xs,aG,A.isN])
        exact hK' _ _ bv
      ·have hno:bG s=none:=by
        cases hd:bG s with
        | none=>rfl
        | some m =>
         exfalso;obtain⟨p1,p2⟩:=hT m hd;have:=hdb m hd;rw[this,eR,zA,cH,p2] at t3;omega
       rw[hZn hno];(simp(disch:=first|decide|omega|(intros;exact aj rfl rfl)|simp only[aa]) only[aH,ft,oB,c1,c2,hml,c6,eq_true c7,g1,zF t3,go_sem,seval,ai,bg,A.kind,A.xs,aG,A.isN])
       try simp[trim,dG,cO]
     ·rw[hZn hno];by_cases hwr:W+3<9223372036854775808
      ·(simp(disch:=first|decide|omega|(intros;exact aj rfl rfl)|simp only[aa]) only[aH,ft,oB,c1,c2,c6,t2,g1,hml,go_sem,seval,ai,bg,A.kind,A.xs,aG,A.isN])
       try simp[trim,dG,cO]
      ·obtain⟨W3,hW3,hW4⟩:∃ W3:Int,IntKind.i64.wrap (W+3)=W3∧W3<0:=by
        refine⟨_,rfl,?_⟩;rw[IntWalk.i64_left];unfold RowKit.wrap64;omega
       have c5':¬ (Q.length:Int)=W3:=by omega
       (simp(disch:=first|decide|omega|(intros;exact aj rfl rfl)|simp only[aa]) only[aH,ft,oB,c1,c2,c6,hW3,c5',g1,hml,go_sem,seval,ai,bg,A.kind,A.xs,aG,A.isN])
       try simp[trim,dG,cO]
  ·have hno:bG s=none:=by
    cases hd:bG s with
    | none=>rfl
    | some m =>
     exfalso;obtain⟨p1,p2,p3⟩:=h4 m hd;have:=Ik (m:=m) L1.length (by omega)
     rw[<- p3,<- hdb m hd] at this;omega
   obtain⟨Q,hQ⟩:∃ Q,Q=L1:=⟨_,rfl⟩;obtain⟨a,ha⟩:∃ a,a=a1:=⟨_,rfl⟩;rw[<- hQ] at h1 h3 hml ⊢;rw[<- ha] at h2 ⊢;rw[<- ha] at c1;have hT:∀ m,bG s=some m->Q=bn m∧a=(aN (bn m)).length:=fun m h=>by rw[hno] at h;cases h
   have hQb:Q.length<=101:=by omega
   have hab:a<=b.length:=h2;have hbd:=h3;clear hR h4;by_cases t1:Q.length<3
   ·have t1':(Q.length:Int)<3:=by omega
    rw[hZn hno];(simp(disch:=first|decide|omega|(intros;exact aj rfl rfl)|simp only[aa]) only[aH,ft,oB,c1,t1',hml,go_sem,seval,ai,bg,A.kind,A.xs,aG,A.isN])
    try simp[trim,dG,cO]
   ·have c6:¬ (Q.length:Int)<3:=by omega
    have g1:(Q.map eI)[1]?=some [.i .i64 (Q.getD 1 0)]:=by rw[ic Q 1 (by omega),List.getD_eq_getElem?_getD,zE (by omega)];rfl
    have hgd:=hbd _ (zN (show 1<Q.length by omega))
    have hgd2:Q.getD 1 0=Q[1]:=by rw[List.getD_eq_getElem?_getD,zE (by omega)];rfl
    obtain⟨W,hW⟩:∃ W,W=Q.getD 1 0:=⟨_,rfl⟩;rw[<- hW] at g1 hgd2;by_cases t2:(Q.length:Int)=W+3
    ·have c3:3<=Q.length∧(Q.length:Int)=W+3:=⟨by omega,t2⟩
     have hgd3:0<=W∧W<=1000:=by omega
     have c6:¬ (Q.length:Int)<3:=by omega
     have c7:(Q.length:Int)=W+3:=by omega
     by_cases t3:(b.length:Int)-(a:Int)=4
     ·exfalso;omega
     ·have hno:bG s=none:=by
       cases hd:bG s with
       | none=>rfl
       | some m =>
        exfalso;obtain⟨p1,p2⟩:=hT m hd;have:=hdb m hd;rw[this,eR,zA,cH,p2] at t3;omega
      rw[hZn hno];(simp(disch:=first|decide|omega|(intros;exact aj rfl rfl)|simp only[aa]) only[aH,ft,oB,c1,hml,c6,eq_true c7,g1,zF t3,go_sem,seval,ai,bg,A.kind,A.xs,aG,A.isN])
      try simp[trim,dG,cO]
    ·rw[hZn hno];by_cases hwr:W+3<9223372036854775808
     ·(simp(disch:=first|decide|omega|(intros;exact aj rfl rfl)|simp only[aa]) only[aH,ft,oB,c1,c6,t2,g1,hml,go_sem,seval,ai,bg,A.kind,A.xs,aG,A.isN])
      try simp[trim,dG,cO]
     ·obtain⟨W3,hW3,hW4⟩:∃ W3:Int,IntKind.i64.wrap (W+3)=W3∧W3<0:=by
       refine⟨_,rfl,?_⟩;rw[IntWalk.i64_left];unfold RowKit.wrap64;omega
      have c5':¬ (Q.length:Int)=W3:=by omega
      (simp(disch:=first|decide|omega|(intros;exact aj rfl rfl)|simp only[aa]) only[aH,ft,oB,c1,c6,hW3,c5',g1,hml,go_sem,seval,ai,bg,A.kind,A.xs,aG,A.isN])
      try simp[trim,dG,cO]
 ·refine⟨dG e,?_,fun m h=>absurd (by have:=hdm m h;cases this;rfl) he,fun _=>⟨e,he,rfl⟩⟩
  apply ah NH rfl;(simp(disch:=first|decide|omega|(intros;exact aj rfl rfl)|simp only[aa]) only[aH,oB,q0,he,go_sem,seval,ai])
  try simp[trim,dG,cO]
def eT (n:Txt):List D:=[.s n]
def bR (l:List Fil):List Txt:=l.map Fil.name
theorem yH (d:Dsk) (hl:d.files.length<=1000000):call 68 [.agg d.l] []=some (vl ((bR d.files).map eT),[]):=by
 have hZ:∃ Z,Z=vl ((bR d.files).map eT):=⟨_,rfl⟩;obtain⟨Z,hZ⟩:=hZ;rw[<- hZ];obtain⟨fl,cp,ar,lf,dn⟩:=d;simp only[Dsk.l] at hl hZ ⊢;apply ah N1 rfl;(simp(disch:=first|decide|omega|(intros;exact aj rfl rfl)|simp only[aa]) only[aH,MX,go_sem,seval,ai])
 refine aE (m:=0) (σ:=Nat) (fun i=>fl.length-i) (fun i=>i<=fl.length) (fun i=>[V.one (.p 0 0),V.one (.sl 1 1 0 (fl.take i).length),vi i])
  (fun i=>[.cells [.d (.l (fl.map Fil.enc)),zI cp,zB ar,zI lf,zB dn],.arr 1 ((bR (fl.take i)).map eT) 0]) (fun _=>(Z,[])) ?_ 0 (zP _) _ _ bv
 intro i h1 R hR;by_cases hi:i<fl.length
 ·have hc:(i:Int)<(fl.length:Int):=by omega
  have g1:(fl.map Fil.enc)[i]?=some fl[i].enc:=by rw[zG,zE hi];rfl
  have hR':=hR (i+1) (by omega) (by omega)
  rw[zO hi] at hR';have hlen:((bR (fl.take i)).map eT).length=(fl.take i).length:=by simp[bR]
  have hl2:(fl.take i).length<=1000000:=by simp;omega
  have e2:(bR (fl.take i++[fl[i]])).map eT=(bR (fl.take i)).map eT++[[.s fl[i].name]]:=by unfold bR;rw[List.map_append,List.map_append];rfl
  have e3:(fl.take i++[fl[i]]).length=(fl.take i).length+1:=by rw[zA];rfl
  rw[e2,e3] at hR';generalize (fl.take i).length=n at *;generalize (bR (fl.take i)).map eT=Q at *;generalize fl[i]=f at *;obtain⟨a,b,c⟩:=f;simp only[Fil.enc] at g1;(simp(disch:=first|decide|omega|(intros;exact aj rfl rfl)|simp only[aa]) only[aH,EY,zT hc,g1,hlen,go_sem,seval,ai])
  exact hR' _ _ bv
 ·have hc:¬ (i:Int)<(fl.length:Int):=by omega
  have ht:fl.take i=fl:=zL (by omega)
  rw[ht];have htk:List.take fl.length ((bR fl).map eT)=(bR fl).map eT:=zL (by simp[bR])
  have hln:((bR fl).map eT).length=fl.length:=by simp[bR]
  rw[hZ];(simp(disch:=first|decide|omega|(intros;exact aj rfl rfl)|simp only[aa]) only[aH,EY,MX,zF hc,htk,hln,go_sem,seval,ai])
  try simp[trim]
def fo (use:List Txt) (n:Txt):Bool:=use.any fun u=>decide (u=n)
def ij (use l:List Txt) (s:Dsk × Int):Dsk × Int:=Kk (l.filter fun n => !fo use n) s
theorem kE (use l:List Txt) (n:Txt) (s:Dsk × Int):ij use (n::l) s=if fo use n=true then ij use l s else ij use l (cQ n s):=by
 unfold ij;by_cases c:fo use n=true
 ·rw[if_pos c,List.filter_cons_of_neg (by simp[c])]
 ·rw[if_neg c,List.filter_cons_of_pos (by simpa using c),vM]
def bd (use:List Txt) (d:Dsk):Dsk × Int:=ij use (bR d.files) (d,0)
theorem o4 {k u:Nat} (d:Dsk) (hd:okN k u d) (hk:k<=900000) (hu:u<=900000000000) (use:List Txt) (hul:use.length<=1000000):call 34 [.agg d.l,vl (use.map eT)] []=some (aR (bd use d),[]):=by
 have q1:=yH d (Nat.le_trans hd.len (by omega))
 have hnl:(bR d.files).length<=1000000:=by have:=hd.len;simp[bR];omega
 obtain⟨Z,hZ⟩:∃ Z,Z=bd use d:=⟨_,rfl⟩;rw[<- hZ];unfold bd at hZ;obtain⟨⟨zfl,zcp,zar,zlf,zdn⟩,ze⟩:=Z;generalize bR d.files=NL at *;simp only[aR,Dsk.l] at q1 ⊢;apply ah Ox rfl;obtain⟨dfl,dcp,dar,dlf,ddn⟩:=d;(simp(disch:=first|decide|omega|(intros;exact aj rfl rfl)|simp only[aa]) only[aH,MT,q1,go_sem,seval,ai])
 refine aE (m:=0) (σ:=Nat × Dsk) (fun t=>NL.length-t.1) (fun t=>t.1<=NL.length∧okN k u t.2∧ij use (NL.drop t.1) (t.2,0)=(⟨zfl,zcp,zar,zlf,zdn⟩,ze)) (fun t=>[vl (use.map eT),V.one (.p 0 0),V.one (.p 1 0),vl (NL.map eT),vi t.1])
  (fun t=>[.cells [.d (.l (t.2.files.map Fil.enc)),zI t.2.cap,zB t.2.armed,zI t.2.left,zB t.2.down],.cells [.ns,zI 0,zB false,zI 0,zB false]])
  (fun _=>(V.tup [(true,[.d (.l (zfl.map Fil.enc)),zI zcp,zB zar,zI zlf,zB zdn]),(false,[zI ze])],[])) ?_ (0,⟨dfl,dcp,dar,dlf,ddn⟩) ⟨zP _,hd,hZ.symm⟩ _ _ bv
 rintro⟨i,⟨fl,cp,ar,lf,dn⟩⟩ ⟨h1,h2,h3⟩ R hR;simp only at h1 h2 h3 ⊢;by_cases c:i<NL.length
 ·have hc:(i:Int)<(NL.length:Int):=by omega
  have hml:(NL.map eT).length=NL.length:=by simp
  have hul2:(use.map eT).length=use.length:=by simp
  rw[zD c,kE] at h3;have g1:(NL.map eT)[i]?=some [.s NL[i]]:=by rw[zG,zE c];rfl
  generalize NL[i]=n at *;have g2:=cG ⟨fl,cp,ar,lf,dn⟩ (h2.ok (by omega) (by omega)) n
  have kk:=dM (s:=(⟨fl,cp,ar,lf,dn⟩,0)) h2 n;rw[show cQ n (⟨fl,cp,ar,lf,dn⟩,0)=aA ⟨fl,cp,ar,lf,dn⟩ (b7 fl n) from cA _ _] at kk h3
  simp only at g2;have hRy:=fun h=>hR (i+1,⟨fl,cp,ar,lf,dn⟩) (by simp only[];omega) ⟨by simp only[];omega,h2,h⟩
  have hRn:=fun h=>hR (i+1,(aA ⟨fl,cp,ar,lf,dn⟩ (b7 fl n)).1) (by simp only[];omega) ⟨by simp only[];omega,kk,h⟩
  generalize aA ⟨fl,cp,ar,lf,dn⟩ (b7 fl n)=q at *;obtain⟨⟨qfl,qcp,qar,qlf,qdn⟩,qe⟩:=q;simp only[aR,Dsk.l] at g2 h3 hRy hRn;have hkf:fo use n=(fo (use.take 0) n || (use.drop 0).any fun u=>decide (u=n)):=by simp[fo]
  (simp(disch:=first|decide|omega|(intros;exact aj rfl rfl)|simp only[aa]) only[aH,tj,zT hc,hml,go_sem,seval,ai])
  refine aE (m:=0) (σ:=Nat × Bool) (fun t=>use.length-t.1) (fun t=>t.1<=use.length∧fo use n=(t.2 || (use.drop t.1).any fun u=>decide (u=n))) (fun t=>[vl (use.map eT),V.one (.p 0 0),V.one (.p 1 0),vl (NL.map eT),vi i,vb t.2,vi t.1])
   (fun _=>[.cells [.d (.l (fl.map Fil.enc)),zI cp,zB ar,zI lf,zB dn],.cells [.ns,zI 0,zB false,zI 0,zB false]])
   (fun _=>(V.tup [(true,[.d (.l (zfl.map Fil.enc)),zI zcp,zB zar,zI zlf,zB zdn]),(false,[zI ze])],[])) ?_ (0,false) ⟨zP _,by simp[fo]⟩ _ _ bv
  clear hR hkf;rintro⟨j,kp⟩ ⟨j1,j2⟩ K hK;simp only at j1 j2 ⊢;by_cases cj:j<use.length
  ·have hcj:(j:Int)<(use.length:Int):=by omega
   have g3:(use.map eT)[j]?=some [.s use[j]]:=by rw[zG,zE cj];rfl
   rw[zD cj,List.any_cons] at j2;generalize use[j]=w at *;cases kp with
   | true =>
    have hK':=hK (j+1,true) (by simp only[];omega) ⟨by simp only[];omega,by simpa using j2⟩
    (simp(disch:=first|decide|omega|(intros;exact aj rfl rfl)|simp only[aa]) only[aH,pj,zT hcj,hul2,go_sem,seval,ai,bg,A.kind,A.xs,aG,A.isN])
    exact hK' _ _ bv
   | false =>
    by_cases cw:w=n
    ·have hK':=hK (j+1,true) (by simp only[];omega) ⟨by simp only[];omega,by simpa[cw] using j2⟩
     have cwb:(w == n)=true:=by simpa using cw
     (simp(disch:=first|decide|omega|(intros;exact aj rfl rfl)|simp only[aa]) only[aH,pj,zT hcj,hul2,g3,g1,cwb,go_sem,seval,ai,bg,A.kind,A.xs,aG,A.isN])
     exact hK' _ _ bv
    ·have hK':=hK (j+1,false) (by simp only[];omega) ⟨by simp only[];omega,by simpa[cw] using j2⟩
     have cwb:(w == n)=false:=by simpa using cw
     (simp(disch:=first|decide|omega|(intros;exact aj rfl rfl)|simp only[aa]) only[aH,pj,zT hcj,hul2,g3,g1,cwb,go_sem,seval,ai,bg,A.kind,A.xs,aG,A.isN])
     exact hK' _ _ bv
  ·have hcj:¬ (j:Int)<(use.length:Int):=by omega
   rw[zC (by omega),List.any_nil,Bool.or_false] at j2
   cases kp with
   | true =>
    rw[if_pos j2] at h3;(simp(disch:=first|decide|omega|(intros;exact aj rfl rfl)|simp only[aa]) only[aH,pj,tj,zF hcj,hul2,go_sem,seval,ai,bg,A.kind,A.xs,aG,A.isN])
    exact hRy h3 _ _ bv
   | false =>
    rw[if_neg (by rw[j2];simp)] at h3
    by_cases c2:qe=0
    ·subst c2;(simp(disch:=first|decide|omega|(intros;exact aj rfl rfl)|simp only[aa]) only[aH,pj,tj,zF hcj,hul2,g1,g2,go_sem,seval,ai,bg,A.kind,A.xs,aG,A.isN])
     exact hRn h3 _ _ bv
    ·have e:ij use (NL.drop (i+1)) (⟨qfl,qcp,qar,qlf,qdn⟩,qe)=(⟨qfl,qcp,qar,qlf,qdn⟩,qe):=uS _ _ c2;rw[e] at h3;cases h3;(simp(disch:=first|decide|omega|(intros;exact aj rfl rfl)|simp only[aa]) only[aH,pj,tj,zF hcj,hul2,g1,g2,c2,go_sem,seval,ai,bg,A.kind,A.xs,aG,A.isN])
     try simp[trim,c2]
 ·have hc:¬ (i:Int)<(NL.length:Int):=by omega
  have hml:(NL.map eT).length=NL.length:=by simp
  rw[zC (by omega)] at h3
  cases h3;(simp(disch:=first|decide|omega|(intros;exact aj rfl rfl)|simp only[aa]) only[aH,tj,MT,zF hc,hml,go_sem,seval,ai])
  try simp[trim]
def lU (l:List Fil) (n:Txt) (k:Int):List Fil × Int:=if bA l n=true then(if k<0∨((aB l n).1.length:Nat)<k then([],6) else(rZ l (aw l n) (fun f=>{ f with data:=f.data.take k.toNat,sure:=if k<f.sure then k else f.sure }),0)) else([],7)
theorem tF (d:Dsk) (hd:d.ok) (n:Txt) (k:Int):call 35 [.agg d.l,vs n,vi k] []=some (aR (aA d (lU d.files n k)),[]):=by
 apply ah OZ rfl;have h2:=dH d hd.len hd.srt n;have h4:=ba d hd.left [] 7;have h6:=ba d hd.left [] 6;unfold lU;cases c2:bA d.files n with
 | false =>
  rw[if_neg (by simp)]
  rw[gi c2] at h2;generalize aA d ([],7)=r at *;obtain⟨⟨f2,cp2,ar2,lf2,dn2⟩,e2⟩:=r;obtain⟨fl,cp,ar,lf,dn⟩:=d;simp only[aR,Dsk.l,List.map_nil] at h2 h4 ⊢;(simp(disch:=first|decide|omega|(intros;exact aj rfl rfl)|simp only[aa]) only[aH,Kn,h2,h4,go_sem,seval,ai])
  try simp[trim]
 | true =>
  rw[if_pos rfl];rw[eN c2] at h2;obtain⟨hp,he⟩:=bM c2;have g1:(d.files.map Fil.enc)[aw d.files n]?=some d.files[aw d.files n].enc:=by simp[hp]
  have hdl:=iZ d.files _ hp;have hus:=hd.used;have hrd:(aB d.files n).1=d.files[aw d.files n].data:=by
   unfold aB;rw[zE hp];simp only[if_pos he]
  rw[hrd];have h3:=jk d.files hd.len hd.srt { d.files[aw d.files n] with data:=d.files[aw d.files n].data.take k.toNat,sure:=if k<d.files[aw d.files n].sure then k else d.files[aw d.files n].sure }
  have h5:=pP hd.srt { d.files[aw d.files n] with data:=d.files[aw d.files n].data.take k.toNat,sure:=if k<d.files[aw d.files n].sure then k else d.files[aw d.files n].sure } (by simp only[he];exact c2)
  rw[h5] at h3;simp only[he] at h3;have hK:=ba d hd.left (d.files.set (aw d.files n) { d.files[aw d.files n] with data:=d.files[aw d.files n].data.take k.toNat,sure:=if k<d.files[aw d.files n].sure then k else d.files[aw d.files n].sure }) 0
  have hpl:=hd.len;rw[iz hp];generalize aw d.files n=p at *;simp only[he] at hK ⊢;generalize d.files[p]=f at *;obtain⟨fn,fd,fs⟩:=f;simp only at he h3 hK hdl ⊢;subst he;by_cases c:k<0∨((fd.length:Nat):Int)<k
  ·rw[if_pos c];generalize aA d ([],6)=r at *;obtain⟨⟨f2,cp2,ar2,lf2,dn2⟩,e2⟩:=r;obtain⟨fl,cp,ar,lf,dn⟩:=d;simp only[aR,Dsk.l,List.map_nil,Fil.enc] at h2 h6 g1 hp hpl ⊢;rcases c with c|c
   ·(simp(disch:=first|decide|omega|(intros;exact aj rfl rfl)|simp only[aa]) only[aH,Kn,h2,g1,zT c,h6,go_sem,seval,ai])
    try simp[trim]
   ·have c0:¬ k<0:=by omega
    (simp(disch:=first|decide|omega|(intros;exact aj rfl rfl)|simp only[aa]) only[aH,Kn,h2,g1,zF c0,zT c,h6,go_sem,seval,ai])
    try simp[trim]
  ·rw[if_neg c];simp only[not_or] at c;have c0:0<=k:=by omega
   have c1:k<=(fd.length:Int):=by omega
   have hkt:k.toNat<=fd.length:=by omega
   obtain⟨fx,hfx⟩:∃ fx,fd.take k.toNat=fx:=⟨_,rfl⟩;obtain⟨fm_,hfm⟩:∃ fm_:Int,(if k<fs then k else fs)=fm_:=⟨_,rfl⟩
   rw[hfx,hfm] at h3 hK ⊢;generalize d.files.set p ⟨fn,fx,fm_⟩=q at *;generalize aA d (q,0)=r at *;obtain⟨⟨f2,cp2,ar2,lf2,dn2⟩,e2⟩:=r;obtain⟨fl,cp,ar,lf,dn⟩:=d;have c1':¬ (fd.length:Int)<k:=by omega
   have c0':¬ k<0:=by omega
   simp only[aR,Dsk.l,Fil.enc,List.map_cons,List.map_nil] at h2 h3 hK g1 hp hpl ⊢;(simp(disch:=first|decide|omega|(intros;exact aj rfl rfl)|simp only[aa]) only[aH,Kn,h2,g1,zF c0',zF c1',hfx,hfm,h3,hK,go_sem,seval,ai])
   try simp[trim]
end Go.Proofs.YtghfhomfppbooaaGreat
