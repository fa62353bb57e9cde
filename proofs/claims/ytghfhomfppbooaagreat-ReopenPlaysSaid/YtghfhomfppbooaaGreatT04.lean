import Derived.Test.YtghfhomfppbooaaGreatT03
import Derived.Test.YtghfhomfppbooaaGreatT02
set_option linter.unusedSimpArgs false
set_option linter.unusedVariables false
set_option maxRecDepth 20000
set_option maxHeartbeats 16000000
namespace Go.Proofs.YtghfhomfppbooaaGreat
open Go.Vi
theorem okS.up {k u k' u':Nat} {s:Sto} (h:okS k u s) (hk:k<=k') (hu:u<=u'):okS k' u' s :=
 ⟨h.dsk.up hk hu,h.len,fun g hg=>by have:=h.seg g hg;omega,h.next,by have:=h.ver;omega,h.sum⟩
theorem DD {k u:Nat} {s:Sto} (h:okS k u s):okN (k+2) (u+800) (kD s).1:=by
 unfold kD;simp only[];have k1:=fH (s:=(s.disk,0)) h.dsk (fileN s.next);split
 ·exact lm (jm k1 _) _
 ·exact k1.up (by omega) (by omega)
theorem rI {k u:Nat} {s:Sto} (h:okS k u s):okS (k+2) (u+800) (dp s).1:=by
 unfold dp;have h1:=qE h;have hsl:(dh s).1.segs=s.segs:=rfl;split
 ·exact h.up (by omega) (by omega)
 ·rename_i c;split
  ·exact h1.up (by omega) (by omega)
  ·have hd:=DD h1;generalize (dh s).1=s1 at *;have h2:=h1.up (k':=k+2) (u':=u+800) (by omega) (by omega)
   split
   ·refine⟨hd,?_,?_,h2.next,?_,h2.sum⟩
    ·show 1<=(s1.segs++[_]).length∧(s1.segs++[_]).length<=64;rw[zA,List.length_singleton,hsl];omega
    ·intro g hg;rcases zX.1 hg with hg|hg
     ·exact h2.seg g hg
     ·rw[zV.1 hg];exact⟨h1.next,by simp only[];omega,by simp only[];omega⟩
    ·show 0<=s1.ver+1∧s1.ver+1<=_;have:=h1.ver;omega
   ·exact⟨hd,h2.len,h2.seg,h2.next,h2.ver,h2.sum⟩
def mi (r:Rec):Txt × Int:=if whyF r=0 then(bN (ke r),0) else([],whyF r)
theorem vK (r:Rec):(mi r).1.length<=90:=by
 unfold mi;split
 ·rename_i h;have hb:=(At.1 h).blen;have h9:=gv (n:=(ke r).length) (by omega)
  show(bN (ke r)).length<=90;rw[mh];omega
 ·simp
def xI (s:Sto) (n:Nat):Sto:={ s with segs:=s.segs.dropLast++[⟨s.last.base,s.last.n+1,s.last.size+n⟩],next:=s.next+1 }
def mo (t:Sto) (x:Txt):Sto × Int :=
 let d:=aA t.disk (dg t.disk.files t.disk.cap (fileN t.last.base) x)
 if d.2≠0 then({ t with disk:=d.1 },d.2) else({ xI t x.length with disk:=d.1 },0)
def lQ (s:Sto) (seg:Int) (r:Rec):Sto × Int :=
 if(mi r).2≠0∨r.at_≠s.next then(s,1) else
  if 1099511627776<=s.next then(s,13) else
   if seg<=s.last.size then(if(dp s).2≠0 then dp s else mo (dp s).1 (mi r).1) else mo s (mi r).1
theorem zt {k u:Nat} {s:Sto} (h:okS k u s) (x:Txt) (hn:s.next<1099511627776):okS k (u+x.length+1) (mo s x).1:=by
 have h1:=kR (s:=(s.disk,0)) h.dsk (fileN s.last.base) x;have h2:okN k (u+x.length+1) (aA s.disk (dg s.disk.files s.disk.cap (fileN s.last.base) x)).1:=okN.up (k:=k) (u:=u+x.length) h1 (Nat.le_refl _) (by omega)
 have h3:=h.up (k':=k) (u':=u+x.length+1) (Nat.le_refl _) (by omega)
 unfold mo;simp only[];split
 ·exact⟨h2,h3.len,h3.seg,h3.next,h3.ver,h3.sum⟩
 ·refine⟨h2,?_,?_,?_,h3.ver,h3.sum⟩
  ·show 1<=(s.segs.dropLast++[_]).length∧(s.segs.dropLast++[_]).length<=64;have:=h.len;rw[zA,List.length_singleton,List.length_dropLast];omega
  ·intro g hg;rcases zX.1 hg with hg|hg
   ·exact h3.seg g (List.dropLast_subset _ hg)
   ·rw[zV.1 hg];have:=h.seg _ (kP h.len.1);exact⟨this.1,by simp only[];omega,by simp only[];omega⟩
  ·show 0<=s.next+1∧s.next+1<=_;have:=h.next;omega
theorem Ad {k u:Nat} {s:Sto} (h:okS k u s) (seg:Int) (r:Rec):okS (k+2) (u+1000) (lQ s seg r).1:=by
 have hl:=vK r;unfold lQ;have hr:=rI h;split
 ·exact h.up (by omega) (by omega)
 ·split
  ·exact h.up (by omega) (by omega)
  ·rename_i c;split
   ·split
    ·exact hr.up (by omega) (by omega)
    ·have hn:(dp s).1.next=s.next:=by
      unfold dp dh kf;split
      ·rfl
      ·split
       ·rfl
       ·split <;> rfl
     exact(zt hr _ (by rw[hn];omega)).up (by omega) (by omega)
   ·exact(zt h _ (by omega)).up (by omega) (by omega)
theorem xo (s:Sto):(dp s).1.next=s.next:=by
 unfold dp dh kf;split
 ·rfl
 ·split
  ·rfl
  ·split <;> rfl
theorem bP (l:List Fil) (n:Txt):(aB l n).1.length<=usedF l:=by
 unfold aB;split
 ·rename_i f hf;split
  ·obtain⟨h,rfl⟩:=List.getElem?_eq_some_iff.1 hf;have h1:=lC l (aw l n+1);rw[zO h,bV,fj] at h1;simp only[];omega
  ·simp
 ·simp
def Sto.floor (s:Sto):Int:=match s.segs with|[]=>0|g::_=>g.base
def Sto.txt (s:Sto) (g:Seg):Txt:=(aB s.disk.files (fileN g.base)).1
def hasD (l:List Fil) (n d:Txt):Prop:=∃ f∈l,f.name=n∧f.data=d
theorem AZ {l:List Fil} {n d:Txt} (hs:srt l) (h:hasD l n d):aB l n=(d,0):=by
 obtain⟨f,hf,rfl,rfl⟩:=h;obtain⟨i,hi,rfl⟩:=zJ hf;unfold aB;rw[Fa hs i hi,zE hi];simp
theorem Hq {d:Dsk} {r:List Fil × Int} (h:(aA d r).2=0):r.2=0∧(aA d r).1.files=r.1:=by
 unfold aA at h ⊢;split at h
 ·cases h
 ·rename_i h1;split at h
  ·rename_i h2;exact absurd h h2
  ·rename_i h2;rw[if_neg h1,if_neg h2];split at h
   ·rename_i h3;split at h
    ·cases h
    ·rename_i h4;rw[if_pos h3,if_neg h4];exact⟨by simpa using h2,rfl⟩
   ·rename_i h3;rw[if_neg h3];exact⟨by simpa using h2,rfl⟩
theorem kT {d:Dsk} {r:List Fil × Int} {n x:Txt} (h:hasD d.files n x) (hr:r.2=0->hasD r.1 n x):hasD (aA d r).1.files n x:=by
 unfold aA;split
 ·exact h
 ·split
  ·exact h
  ·rename_i h2;have h3:=hr (by simpa using h2)
   split
   ·split
    ·exact h
    ·exact h3
   ·exact h3
theorem vn {l:List Fil} {n x:Txt} (k:Nat) (g:Fil) (h:hasD l n x):hasD (gt l k g) n x:=by
 obtain⟨f,hf,h1⟩:=h;refine⟨f,?_,h1⟩;unfold gt;rw[<- zY k l] at hf;rcases zX.1 hf with hf|hf
 ·exact List.mem_append_left _ hf
 ·exact List.mem_append_right _ (List.mem_cons_of_mem _ hf)
theorem GP (l:List Fil) (k:Nat) (g:Fil):hasD (gt l k g) g.name g.data:=⟨g,by unfold gt;simp,rfl,rfl⟩
theorem qU {l:List Fil} {n x:Txt} (k:Nat) (hk:k<l.length) (g:Fil) (h:hasD l n x) (hn:l[k].name≠n):hasD (l.set k g) n x:=by
 obtain⟨f,hf,h1,h2⟩:=h;obtain⟨i,hi,rfl⟩:=zJ hf;have hne:k≠i:=fun e=>by subst e;exact hn h1
 refine⟨l[i],?_,h1,h2⟩;have e:l[i]=(l.set k g)[i]'(by simpa using hi):=by rw[List.getElem_set_ne hne]
 rw[e];exact zN _
theorem EK {l:List Fil} {k:Nat} (hk:k<l.length) (g:Fil):g∈l.set k g:=by
 have hm:(l.set k g)[k]'(by simpa using hk)∈l.set k g:=zN _
 rwa [List.getElem_set_self] at hm
theorem G1 {l:List Fil} (k:Nat) (hk:k<l.length) (g:Fil):hasD (l.set k g) g.name g.data:=by
 exact⟨g,EK hk g,rfl,rfl⟩
theorem xh {l:List Fil} {n x:Txt} (k:Nat) (hk:k<l.length) (h:hasD l n x) (hn:l[k].name≠n):hasD (cR l k) n x:=by
 obtain⟨f,hf,h1,h2⟩:=h;refine⟨f,?_,h1,h2⟩;have e:l=l.take k++([l[k]]++l.drop (k+1)):=by rw[List.singleton_append,<- zD hk,zY]
 rw[e] at hf;unfold cR;rcases zX.1 hf with hf|hf
 ·exact List.mem_append_left _ hf
 ·rcases zX.1 hf with hf|hf
  ·rw[zV.1 hf] at h1;exact absurd h1 hn
  ·exact List.mem_append_right _ hf
theorem kF {s:Dsk × Int} {f:Dsk->Dsk × Int} {n x:Txt} (h:hasD s.1.files n x) (hf:hasD (f s.1).1.files n x):hasD (rT s f).1.files n x:=by
 unfold rT;split
 ·exact hf
 ·exact h
theorem CR {s:Dsk × Int} {n x:Txt} (m:Txt) (h:hasD s.1.files n x):hasD (bS m s).1.files n x:=by
 refine kF h (kT h fun h0=>?_)
 unfold cN at h0 ⊢;split at h0
 ·rename_i h1;split at h0
  ·cases h0
  ·rename_i h2;rw[if_pos h1,if_neg h2];exact vn _ _ h
 ·cases h0
theorem rE {s:Dsk × Int} {n x m:Txt} (hm:m≠n) (h:hasD s.1.files n x):hasD (cQ m s).1.files n x:=by
 refine kF h (kT h fun h0=>?_)
 unfold b7 at h0 ⊢;split at h0
 ·rename_i h1;obtain⟨hp,he⟩:=bM h1;rw[if_pos h1];exact xh _ hp h (by rw[he];exact hm)
 ·cases h0
theorem Dw {s:Dsk × Int} {n x:Txt} (hs:srt s.1.files) (m:Txt) (h:hasD s.1.files n x):hasD (gK m s).1.files n x:=by
 refine kF h (kT h fun h0=>?_)
 unfold di at h0 ⊢;split at h0
 ·rename_i h1;obtain⟨hp,he⟩:=bM h1;rw[if_pos h1,iz hp];by_cases hm:m=n
  ·have hr:=AZ hs h;unfold aB at hr;rw[<- hm,zE hp] at hr;simp only[he,if_true,Prod.mk.injEq,and_true] at hr;refine(?_:∀ G:Fil,G.name=n->G.data=x->hasD (s.1.files.set (aw s.1.files m) G) n x) _ (he.trans hm) hr;rintro G rfl rfl;exact G1 _ hp G
  ·exact qU _ hp _ h (by rw[he];exact hm)
 ·cases h0
theorem EB {s:Dsk × Int} {n x m:Txt} (hm:m≠n) (t:Txt) (h:hasD s.1.files n x):hasD (lT m t s).1.files n x:=by
 refine kF h (kT h fun h0=>?_)
 unfold dg at h0 ⊢;split at h0
 ·rename_i h1;split at h0
  ·cases h0
  ·rename_i h2;obtain⟨hp,he⟩:=bM h1;rw[if_pos h1,if_neg h2,iz hp];exact qU _ hp _ h (by rw[he];exact hm)
 ·cases h0
theorem Ek {s:Dsk × Int} {n x m t:Txt} (hm:m≠n) (ht:t≠n) (h:hasD s.1.files n x):hasD (uw m t s).1.files n x:=by
 refine kF h (kT h fun h0=>?_)
 unfold jF at h0 ⊢;split at h0
 ·rename_i h1;split at h0
  ·rename_i h2;obtain⟨hp,he⟩:=bM h1;rw[if_pos h1,if_pos h2];have h3:=xh _ hp h (by rw[he];exact hm)
   unfold jD;split
   ·rename_i h4;obtain⟨hp4,he4⟩:=bM h4;exact qU _ hp4 _ h3 (by rw[he4,vm];exact ht)
   ·exact vn _ _ h3
  ·cases h0
 ·cases h0
theorem EU {s:Dsk × Int} {n x m:Txt} (hm:m≠n) (h:hasD s.1.files n x):hasD (eD m s).1.files n x:=by
 unfold eD;split
 ·exact h
 ·split
  ·exact rE (s:=(s.1,0)) hm h
  ·exact rE (s:=(s.1,0)) hm h
theorem Cc {k u:Nat} {s:Dsk × Int} (hd:okN k u s.1) {n x:Txt} (m:Man) (h1:[110]≠n) (h2:[109]≠n) (h:hasD s.1.files n x):hasD (bX m s).1.files n x:=by
 unfold bX;have h3:hasD (if s.2=0 then(s.1,(aX m).2) else s).1.files n x:=by split <;> exact h
 have k1:okN k u (if s.2=0 then(s.1,(aX m).2) else s).1:=by split <;> exact hd
 generalize (if s.2=0 then(s.1,(aX m).2) else s)=s1 at *
 have h4:hasD (if(aB s1.1.files [110]).2=0 then cQ [110] s1 else s1).1.files n x:=by
  split
  ·exact rE h1 h3
  ·exact h3
 have k2:okN k u (if(aB s1.1.files [110]).2=0 then cQ [110] s1 else s1).1:=by
  split
  ·exact dM k1 _
  ·exact k1
 simp only[];generalize (if(aB s1.1.files [110]).2=0 then cQ [110] s1 else s1)=s2 at *
 have h5:=CR [110] h4;have k3:=fH k2 [110];split
 ·exact h5
 ·exact Ek h1 h2 (Dw (lm (kR k3 [110] (aX m).1) [110]).srt _ (EU h1 (EB h1 _ h5)))
theorem Hj {d:Dsk} {n:Txt} (h0:(bS n (d,0)).2=0):hasD (bS n (d,0)).1.files n []:=by
 unfold bS rT at h0 ⊢;rw[if_pos rfl] at h0 ⊢;obtain⟨h1,h2⟩:=Hq h0;rw[h2];unfold cN at h1 ⊢;split at h1
 ·rename_i h3;split at h1
  ·cases h1
  ·rename_i h4;rw[if_pos h3,if_neg h4];exact GP _ _ ⟨n,[],0⟩
 ·cases h1
theorem zh (a:Int) (c:UInt8):[c]≠fileN a:=fun h=>by
 have:=congrArg List.length h;simp[fileN,nz] at this
abbrev SR:=Seg × List Rec
def chainM:Int->List SR->Int->Prop
 | b,[],e=>b=e
 | b,p::M,e=>p.1.base=b∧1<=p.2.length∧chainM (b+p.2.length) M e
def iM (M:List SR):List Rec:=M.flatMap (·.2)
structure fileOk (fs:List Fil) (p:SR):Prop where
 has:hasD fs (fileN p.1.base) (rowS p.2)
 why:∀ r∈p.2,whyF r=0
 num:numB p.1.base p.2
 n:p.1.n=p.2.length
 size:p.1.size=(rowS p.2).length
structure Inv (f:Int) (s:Sto) (M:List SR) (g:Seg) (l:List Rec):Prop where
 segs:s.segs=M.map (·.1)++[g]
 file:∀ p∈M++[(g,l)],fileOk s.disk.files p
 chain:chainM f M g.base
 next:s.next=g.base+l.length
 sure:0<=s.sure∧s.sure<=s.next
structure Pr where
 key:Int
 val:List UInt8
 deriving DecidableEq
def Pr.enc (e:Pr):List D:=[.i .u8 e.key,.s e.val]
theorem Pr.len (e:Pr):e.enc.length=2:=Eq.trans rfl rfl
theorem Pr.tk (e:Pr):e.enc.take 2=e.enc:=Eq.trans rfl rfl
theorem Pr.tkL (e:Pr):(e.enc.map L.d).take 2=e.enc.map L.d:=Eq.trans rfl rfl
theorem Pr.at0 (e:Pr):e.enc[0]?=some (.i .u8 e.key):=Eq.trans rfl rfl
theorem Pr.at1 (e:Pr):(e.enc.drop 1)[0]?=some (.s e.val):=Eq.trans rfl rfl
def Pr.ok (e:Pr):Prop:=(0<=e.key∧e.key<256)∧e.val.length<=9223372036854775807
def Pr.ty:List Ty:=[.i .u8,.s]
def xR (p:Pr):Bool:=decide (1<=p.val.length) && decide (p.val.length<=63)
def lX (l:List Pr) (i:Nat):Int:=match l[i]? with|some p=>p.key|none=>0
def ur (l:List Pr) (i:Nat):Bool:=match l[i]? with
 | some p=>xR p && (decide (i=0) || decide (lX l (i-1)<p.key))
 | none=>true
def jg (l:List Pr):Bool:=(List.range l.length).all (ur l)
theorem xw (l:List Pr) (i:Nat) (h:i<l.length):((List.range l.length).drop i).all (ur l)=(ur l i && ((List.range l.length).drop (i+1)).all (ur l)):=by
 rw[zD (by simpa using h),List.all_cons,List.getElem_range]
theorem Ci (l:List Pr) (i:Nat) (h:l.length<=i):((List.range l.length).drop i).all (ur l)=true:=by
 rw[zC (by simpa using h)];rfl
theorem A9 (l:List Pr) (hl:l.length<=1000000):call 75 [vl (l.map Pr.enc)] []=some (vb (jg l),[]):=by
 apply ah O5 rfl;(simp(disch:=first|decide|omega|(intros;exact aj rfl rfl)|simp only[aa]) only[LP,go_sem,seval,ai])
 refine aE (m:=0) (σ:=Nat) (fun i=>l.length-i) (fun i=>i<=l.length∧jg l=((List.range l.length).drop i).all (ur l)) (fun i=>[vl (l.map Pr.enc),vi i]) (fun _=>[])
  (fun _=>(vb (jg l),[])) ?_ 0 ⟨zP _,rfl⟩ _ _ bv
 intro i ⟨h1,h2⟩ R hR;by_cases hi:i<l.length
 ·rw[xw l i hi] at h2;have g1:(l.map Pr.enc)[i]?=some l[i].enc:=by simp[hi]
  have ha:ur l i=(xR l[i] && (decide (i=0) || decide (lX l (i-1)<l[i].key))):=by simp[ur,hi]
  rw[ha] at h2;obtain⟨p,hp⟩:∃ p,p=l[i]:=⟨_,rfl⟩;rw[<- hp] at g1 h2;by_cases c1:(p.val.length:Int)<1
  ·have e:jg l=false:=by rw[h2];simp[xR];omega
   rw[e];(simp(disch:=first|decide|omega|(intros;exact aj rfl rfl)|simp only[aa]) only[rD,g1,Pr.enc,zT c1,go_sem,seval,ai])
   try simp[trim]
  ·by_cases c2:(63:Int)<p.val.length
   ·have e:jg l=false:=by rw[h2];simp[xR];omega
    rw[e];(simp(disch:=first|decide|omega|(intros;exact aj rfl rfl)|simp only[aa]) only[rD,g1,Pr.enc,zF c1,zT c2,go_sem,seval,ai])
    try simp[trim]
   ·have hk:xR p=true:=by simp[xR];omega
    rw[hk,Bool.true_and] at h2;by_cases c3:i=0
    ·have hi0:¬ (0:Int)<(i:Int):=by omega
     rw[zT c3,Bool.true_or,Bool.true_and] at h2;(simp(disch:=first|decide|omega|(intros;exact aj rfl rfl)|simp only[aa]) only[rD,g1,Pr.enc,zF c1,zF c2,zF hi0,go_sem,seval,ai])
     exact hR (i+1) (by omega) ⟨by omega,h2⟩ _ _ bv
    ·have hi0:(0:Int)<(i:Int):=by omega
     have hm:((i:Int)-1).toNat=i-1:=by omega
     have hm0:(0:Int)<=(i:Int)-1:=by omega
     have g2:(l.map Pr.enc)[i-1]?=some l[i-1].enc:=by rw[zG,zE (by omega)];rfl
     have hq:lX l (i-1)=l[i-1].key:=by
      have:l[i-1]?=some l[i-1]:=zE (by omega)
      simp[lX,this]
     rw[hq,zF c3,Bool.false_or] at h2;obtain⟨q,hqe⟩:∃ q,q=l[i-1]:=⟨_,rfl⟩;rw[<- hqe] at g2 h2;by_cases c4:p.key<=q.key
     ·have e:jg l=false:=by rw[h2,zF (by omega)];rfl
      rw[e];(simp(disch:=first|decide|omega|(intros;exact aj rfl rfl)|simp only[aa]) only[rD,g1,g2,hm,hm0,Pr.enc,zF c1,zF c2,zT hi0,zT c4,go_sem,seval,ai])
      try simp[trim]
     ·rw[zT (p:=q.key<p.key) (by omega),Bool.true_and] at h2
      (simp(disch:=first|decide|omega|(intros;exact aj rfl rfl)|simp only[aa]) only[rD,g1,g2,hm,hm0,Pr.enc,zF c1,zF c2,zT hi0,zF c4,go_sem,seval,ai])
      exact hR (i+1) (by omega) ⟨by omega,h2⟩ _ _ bv
 ·have e:jg l=true:=by rw[h2,Ci l i (by omega)]
  rw[e];(simp(disch:=first|decide|omega|(intros;exact aj rfl rfl)|simp only[aa]) only[rD,LP,go_sem,seval,ai])
  try simp[trim]
def r6 (s:List UInt8) (a:Nat):Option (Pr × Nat):=match i7 (s.drop (a+1)) 0 0 with
 | some (n,k)=>if s.length<a+1+k+n then none else some (⟨((s[a]?.getD 0).toNat:Int),(s.take (a+1+k+n)).drop (a+1+k)⟩,a+1+k+n)
 | none=>none
def iv (s:List UInt8):Nat->Nat->List Pr->Option (List Pr × Nat)
 | 0,a,out=>some (out,a)
 | n+1,a,out=>match r6 s a with
  | some (p,b)=>iv s n b (out++[p])
  | none=>none
def oc (s:List UInt8):Option (List Pr × Nat)->Option (List Pr)
 | some (out,a)=>if a=s.length∧jg out=true then some out else none
 | none=>none
def cM (s:List UInt8):Option (List Pr):=match i7 s 0 0 with
 | some (n,k)=>if 256<n then none else oc s (iv s n k [])
 | none=>none
def il:Option (List Pr)->V
 | some l=>.tup [(false,[.d (.l (l.map Pr.enc))]),(false,[.d (.b true)])]
 | none=>.tup [(false,[.d (.l [])]),(false,[.d (.b false)])]
theorem B7 (s:List UInt8) (hs:s.length<=1000000000):call 40 [vs s] []=some (il (cM s),[]):=by
 apply ah OH rfl;have h0:=dP s 0 (by decide) (by omega)
 rw[List.drop_zero] at h0;have z0:((0:Nat):Int)=0:=rfl;rw[z0] at h0;cases hn:i7 s 0 0 with
 | none =>
  have e:cM s=none:=by simp only[cM,hn]
  rw[hn] at h0;rw[e];(simp(disch:=first|decide|omega|(intros;exact aj rfl rfl)|simp only[aa]) only[JU,h0,iE,il,go_sem,seval,ai])
  try simp[trim]
 | some q =>
  obtain⟨n,k⟩:=q;have hk:=(dA hn).2.1;rw[hn] at h0;by_cases c1:(256:Int)<(n:Int)
  ·have e:cM s=none:=by simp only[cM,hn];rw[if_pos (by omega)]
   rw[e];(simp(disch:=first|decide|omega|(intros;exact aj rfl rfl)|simp only[aa]) only[JU,h0,iE,il,zT c1,go_sem,seval,ai])
   try simp[trim]
  ·have e:cM s=oc s (iv s n k []):=by simp only[cM,hn];rw[if_neg (by omega)]
   rw[e];have ek:(((0+k:Nat)):Int)=(k:Int):=by rw[Nat.zero_add]
   (simp(disch:=first|decide|omega|(intros;exact aj rfl rfl)|simp only[aa]) only[JU,h0,iE,zF c1,ek,go_sem,seval,ai])
   refine aE (m:=0) (σ:=Nat × Nat × List Pr) (fun t=>n-t.1) (fun t=>t.1<=n∧t.2.1<=s.length∧t.2.2.length=t.1∧iv s n k []=iv s (n-t.1) t.2.1 t.2.2) (fun t=>[vs s,vi n,vi t.2.1,V.one (.sl 0 2 0 t.2.2.length),vi t.1]) (fun t=>[.arr 2 (t.2.2.map Pr.enc) 0])
    (fun _=>(il (oc s (iv s n k [])),[])) ?_ (0,k,[]) ⟨zP _,hk,rfl,rfl⟩ _ _ bv
   rintro⟨i,a,out⟩ ⟨h1,h2,h3,h4⟩ R hR;simp only at h1 h2 h3 h4;by_cases hi:i<n
   ·by_cases ca:(s.length:Int)<=(a:Int)
    ·have e0:i7 (s.drop (a+1)) 0 0=none:=by rw[zC (by omega)];rfl
     obtain⟨m,hm⟩:∃ m,n-i=m+1:=⟨n-i-1,by omega⟩
     have e1:iv s n k []=none:=by rw[h4,hm,iv];simp only[r6,e0]
     rw[e1];(simp(disch:=first|decide|omega|(intros;exact aj rfl rfl)|simp only[aa]) only[pd,zT ca,il,oc,go_sem,seval,ai])
     try simp[trim]
    obtain⟨m,hm⟩:∃ m,n-i=m+1:=⟨n-i-1,by omega⟩
    rw[hm,iv] at h4;have hr:=dP s (a+1) (by omega) (by omega)
    rw[Int.natCast_add,Int.natCast_one] at hr;cases hp:i7 (s.drop (a+1)) 0 0 with
    | none =>
     have e1:iv s n k []=none:=by rw[h4];simp only[r6,hp]
     rw[hp] at hr;rw[e1];(simp(disch:=first|decide|omega|(intros;exact aj rfl rfl)|simp only[aa]) only[pd,zF ca,hr,iE,il,oc,go_sem,seval,ai])
     try simp[trim]
    | some q =>
     obtain⟨w,j⟩:=q;have hj:=dA hp;have hjl:a+1+j<=s.length:=by have:=hj.2.1;rw[zH] at this;omega
     rw[hp] at hr;by_cases c2:(s.length:Int)-((a+1+j:Nat):Int)<(w:Int)
     ·have e1:iv s n k []=none:=by rw[h4];simp only[r6,hp];rw[if_pos (by omega)]
      rw[e1];(simp(disch:=first|decide|omega|(intros;exact aj rfl rfl)|simp only[aa]) only[pd,zF ca,hr,iE,il,oc,zT c2,go_sem,seval,ai])
      try simp[trim]
     ·have ha:a<s.length:=by omega
      have hc:s[a]?=some s[a]:=zE ha;have e1:r6 s a=some (⟨(s[a].toNat:Int),(s.take (a+1+j+w)).drop (a+1+j)⟩,a+1+j+w):=by
       simp only[r6,hp];rw[if_neg (by omega),hc];rfl
      rw[e1] at h4;simp only at h4;have ew:(((a+1+j:Nat)):Int)+(w:Int)=((a+1+j+w:Nat):Int):=by omega
      have hw:(((a+1+j+w:Nat)):Int).toNat=a+1+j+w:=by omega
      (simp(disch:=first|decide|omega|(intros;exact aj rfl rfl)|simp only[aa]) only[pd,zF ca,hr,iE,zF c2,hc,ew,go_sem,seval,ai])
      have hR':=hR ((i+1,a+1+j+w,out++[⟨(s[a].toNat:Int),(s.take (a+1+j+w)).drop (a+1+j)⟩])) (by first|omega|(simp only[];omega)) ⟨by omega,by simp only[];omega,by simp[h3],by rw[h4];congr 1;omega⟩;simp only[Pr.enc,zA,List.length_cons,List.length_nil,Nat.zero_add,List.map_append,List.map_cons,List.map_nil] at hR';exact hR' _ _ bv
   ·have hin:i=n:=by omega
    subst hin;rw[Nat.sub_self,iv] at h4;rw[h4];have hr:=A9 out (by omega)
    have ht:List.take out.length (out.map Pr.enc)=out.map Pr.enc:=zL (by simp)
    by_cases c3:(a:Int)≠(s.length:Int)
    ·have e1:oc s (some (out,a))=none:=by simp only[oc];rw[if_neg (by omega)]
     rw[e1];(simp(disch:=first|decide|omega|(intros;exact aj rfl rfl)|simp only[aa]) only[pd,JU,bne_iff_ne.2 c3,il,go_sem,seval,ai])
     try simp[trim]
    ·have c3':((a:Int) != (s.length:Int))=false:=by simpa using c3
     cases hq:jg out with
     | false =>
      have e1:oc s (some (out,a))=none:=by simp only[oc,hq];rw[if_neg (by simp)]
      rw[e1];rw[hq] at hr;(simp(disch:=first|decide|omega|(intros;exact aj rfl rfl)|simp only[aa]) only[pd,JU,c3',hr,ht,il,go_sem,seval,ai])
      try simp[trim]
     | true =>
      have e1:oc s (some (out,a))=some out:=by simp only[oc,hq];rw[if_pos ⟨by omega,trivial⟩]
      rw[e1];rw[hq] at hr;(simp(disch:=first|decide|omega|(intros;exact aj rfl rfl)|simp only[aa]) only[pd,JU,c3',hr,ht,il,go_sem,seval,ai])
      try simp[trim]
def iG (l:List Pr):List UInt8->List Pr
 | []=>l
 | c::r=>l.takeWhile (fun p=>decide (p.key<(c.toNat:Int)))++(if r=[] then[] else[⟨(c.toNat:Int),r⟩])++l.filter (fun p=>decide ((c.toNat:Int)<p.key))
theorem HM (P:Pr->Bool) (l:List Pr) (i:Nat) (h:i<l.length):(l.drop i).takeWhile P=if P l[i]=true then l[i]::(l.drop (i+1)).takeWhile P else[]:=by
 rw[zD h,List.takeWhile_cons]
theorem CF (l:List Pr) (i:Nat) (h:i<l.length):(l.take i).map Pr.enc++[l[i].enc]=(l.take (i+1)).map Pr.enc:=by
 rw[zO h,List.map_append];rfl
theorem nl (Q:Pr->Bool) (l:List Pr) (i:Nat) (h:i<l.length):(l.take (i+1)).filter Q=(l.take i).filter Q++(if Q l[i]=true then[l[i]] else[]):=by
 rw[zO h,List.filter_append];congr 1
 by_cases hq:Q l[i]=true <;> simp[hq]
theorem nI (Q:Pr->Bool) (l:List Pr) (i:Nat):((l.take i).filter Q).length<=l.length :=
 Nat.le_trans (List.length_filter_le _ _) (by simp;omega)
theorem step_ref (l:List Pr) (hl:l.length<=1000000) (d:List UInt8) (hd:d.length<=1000000):call 42 [vl (l.map Pr.enc),vs d] []=some (vl ((iG l d).map Pr.enc),[]):=by
 apply ah N9 rfl;have hok:aQ 2 (l.map Pr.enc)=true:=a8 Pr.len _;cases d with
 | nil =>
  have e0:(([]:List UInt8) == [])=true:=rfl;have ht:List.take l.length (l.map Pr.enc)=l.map Pr.enc:=zL (by simp)
  (simp(disch:=first|decide|omega|(intros;exact aj rfl rfl)|simp only[aa]) only[DL,e0,hok,ht,go_sem,seval,ai])
  try simp[trim,iG]
 | cons c r =>
  have e0:((c::r) == ([]:List UInt8))=false:=rfl;obtain⟨Z,hZ⟩:∃ Z:V × Hp,Z=(vl ((iG l (c::r)).map Pr.enc),[]):=⟨_,rfl⟩;rw[<- hZ];have hc0:(c::r)[0]?=some c:=rfl;have hlr:(c::r).length<=1000000:=hd;obtain⟨dt,hD⟩:∃ dt,dt=c::r:=⟨_,rfl⟩;rw[<- hD] at hc0 e0 hlr hZ ⊢;(simp(disch:=first|decide|omega|(intros;exact aj rfl rfl)|simp only[aa]) only[DL,e0,go_sem,seval,ai])
  refine aE (m:=0) (σ:=Nat) (fun i=>l.length-i) (fun i=>i<=l.length∧l.takeWhile (fun p=>decide (p.key<(c.toNat:Int)))=l.take i++(l.drop i).takeWhile (fun p=>decide (p.key<(c.toNat:Int)))) (fun i=>[vl (l.map Pr.enc),vs dt,V.one (.sl 0 2 0 (l.take i).length),vi i]) (fun i=>[.arr 2 ((l.take i).map Pr.enc) 0])
   (fun _=>Z) ?_ 0 ⟨zP _,by simp⟩ _ _ bv
  intro i ⟨h1,h2⟩ R hR;have key:l.takeWhile (fun p=>decide (p.key<(c.toNat:Int)))=l.take i->Z=(vl ((l.take i++(if r=[] then[] else[(⟨(c.toNat:Int),r⟩:Pr)])++l.filter (fun(p:Pr)=>decide ((c.toNat:Int)<p.key))).map Pr.enc),[]):=by
   intro he;rw[hZ,hD,iG,he]
  have two:∀ (i:Nat) (h:i<l.length),(l.map Pr.enc)[i]?=some l[i].enc:=fun i h=>by rw[zG,zE h];rfl
  have hlen:(l.take i).length=i:=by simp;omega
  have go:(i<l.length->lX l i<(c.toNat:Int))∨(i<l.length->¬ lX l i<(c.toNat:Int)):=by
   by_cases h:lX l i<(c.toNat:Int)
   ·exact .inl fun _=>h
   ·exact .inr fun _=>h
  have kat:∀ (i:Nat) (h:i<l.length),lX l i=l[i].key:=fun i h=>by
   have:l[i]?=some l[i]:=zE h;simp[lX,this]
  by_cases hi:i<l.length∧lX l i<(c.toNat:Int)
  ·obtain⟨hi,c1⟩:=hi;have g1:=two i hi;rw[kat i hi] at c1;rw[HM _ l i hi,if_pos (zT c1)] at h2;have ho:=CF l i hi;have hl1:(l.take i).length+1=(l.take (i+1)).length:=by simp;omega
   have h3:l.takeWhile (fun p=>decide (p.key<(c.toNat:Int)))=l.take (i+1)++(l.drop (i+1)).takeWhile (fun p=>decide (p.key<(c.toNat:Int))):=by rw[h2,zO hi,List.append_assoc];rfl
   obtain⟨p,hp⟩:∃ p,p=l[i]:=⟨_,rfl⟩;rw[<- hp] at g1 c1 ho;have hb:(l.take i).length<=1000000:=by omega
   obtain⟨B,hB⟩:∃ B,B=l.take i:=⟨_,rfl⟩;rw[<- hB] at ho hl1 hb ⊢;(simp(disch:=first|decide|omega|(intros;exact aj rfl rfl)|simp only[aa]) only[sI,g1,Pr.len,Pr.tk,Pr.tkL,Pr.at0,hc0,zT c1,ho,hl1,go_sem,seval,ai])
   exact hR (i+1) (by omega) ⟨by omega,h3⟩ _ _ bv
  ·have he:l.takeWhile (fun p=>decide (p.key<(c.toNat:Int)))=l.take i:=by
    rw[h2];by_cases hj:i<l.length
    ·rw[HM _ l i hj,if_neg ?_,List.append_nil];intro hc;exact hi ⟨hj,by rw[kat i hj];simpa using hc⟩
    ·rw[zC (by omega)];simp
   have hz:=key he;have hb:(l.take i).length<=1000000:=by omega
   clear key he h2 hR hlen;obtain⟨B,hB⟩:∃ B,B=l.take i:=⟨_,rfl⟩;rw[<- hB] at hz hb ⊢;clear hB;obtain⟨B',hB',hm,hl2⟩:∃ B':List Pr,B'=B++[⟨(c.toNat:Int),r⟩]∧B.map Pr.enc++[[.i .u8 (c.toNat:Int),.s r]]=B'.map Pr.enc∧B.length+1=B'.length:=⟨_,rfl,by simp[Pr.enc],by simp⟩
   have hdr:List.drop 1 dt=r:=by rw[hD];rfl
   have hdt:List.take dt.length dt=dt:=List.take_length;by_cases hr:r=[]
   ·have hdl:¬ (1:Int)<(dt.length:Int):=by rw[hD,hr];simp
    rw[if_pos hr,List.append_nil] at hz;clear hm hl2 hB' B';by_cases hj:i<l.length
    ·have g1:=two i hj;have c1:¬ l[i].key<(c.toNat:Int):=fun h=>hi ⟨hj,by rw[kat i hj];exact h⟩
     obtain⟨p,hp⟩:∃ p,p=l[i]:=⟨_,rfl⟩;rw[<- hp] at g1 c1;(simp(disch:=first|decide|omega|(intros;exact aj rfl rfl)|simp only[aa]) only[sI,DL,g1,Pr.len,Pr.tk,Pr.tkL,Pr.at0,hc0,zF c1,zF hdl,go_sem,seval,ai])
     refine aE (m:=0) (σ:=Nat) (fun j=>l.length-j) (fun j=>j<=l.length) (fun j=>[vl (l.map Pr.enc),vs dt,V.one (.sl 0 2 0 (B++(l.take j).filter (fun(p:Pr)=>decide ((c.toNat:Int)<p.key))).length),vi j]) (fun j=>[.arr 2 ((B++(l.take j).filter (fun(p:Pr)=>decide ((c.toNat:Int)<p.key))).map Pr.enc) 0])
      (fun _=>Z) ?_ 0 (zP _) _ _ (at_head2 (by decide) (by simp only[List.map_cons,List.map_nil,go_sem,seval];exact rfl) (by simp[aL,aI,ay,aJ,ax,V.ren,L.ren,Box.ren,V.refs,L.refs,Box.refs,List.append_nil]) (by simp[aL,aI,ay,aJ,ax,V.ren,L.ren,Box.ren,V.refs,L.refs,Box.refs,List.append_nil]))
     intro j h1 R hR;by_cases hi:j<l.length
     ·have g1:=two j hi;have hf:=nl (fun(p:Pr)=>decide ((c.toNat:Int)<p.key)) l j hi
      have hfl:=nI (fun(p:Pr)=>decide ((c.toNat:Int)<p.key)) l j
      obtain⟨p,hp⟩:∃ p,p=l[j]:=⟨_,rfl⟩;rw[<- hp] at g1 hf;by_cases c2:(c.toNat:Int)<p.key
      ·rw[if_pos (zT c2)] at hf;have hR':=hR (j+1) (by omega) (by omega)
       rw[hf] at hR';obtain⟨C,hC⟩:∃ C,C=B++(l.take j).filter (fun(p:Pr)=>decide ((c.toNat:Int)<p.key)):=⟨_,rfl⟩
       have hcl:C.length<=2000001:=by rw[hC,zA];omega
       rw[<- List.append_assoc,<- hC] at hR';rw[<- hC];obtain⟨C',hC',hm1,hm2⟩:∃ C':List Pr,C++[p]=C'∧C.map Pr.enc++[p.enc]=C'.map Pr.enc∧C.length+1=C'.length:=⟨_,rfl,by simp,by simp⟩
       rw[hC'] at hR';(simp(disch:=first|decide|omega|(intros;exact aj rfl rfl)|simp only[aa]) only[iY,g1,Pr.len,Pr.tk,Pr.tkL,Pr.at0,hc0,zT c2,hm1,hm2,go_sem,seval,ai])
       exact hR' _ _ bv
      ·rw[if_neg (by simpa using c2),List.append_nil] at hf
       have hR':=hR (j+1) (by omega) (by omega)
       rw[hf] at hR';generalize B++(l.take j).filter (fun(p:Pr)=>decide ((c.toNat:Int)<p.key))=C at hR' ⊢
       (simp(disch:=first|decide|omega|(intros;exact aj rfl rfl)|simp only[aa]) only[iY,g1,Pr.len,Pr.tk,Pr.tkL,Pr.at0,hc0,zF c2,go_sem,seval,ai])
       exact hR' _ _ bv
     ·have hj2:l.take j=l:=zL (by omega)
      rw[hj2];obtain⟨C,hC⟩:∃ C,C=B++l.filter (fun(p:Pr)=>decide ((c.toNat:Int)<p.key)):=⟨_,rfl⟩
      rw[<- hC] at hz ⊢;rw[hz];have ht:List.take C.length (C.map Pr.enc)=C.map Pr.enc:=zL (by simp)
      (simp(disch:=first|decide|omega|(intros;exact aj rfl rfl)|simp only[aa]) only[iY,DL,ht,go_sem,seval,ai])
      try simp[trim]
    ·(simp(disch:=first|decide|omega|(intros;exact aj rfl rfl)|simp only[aa]) only[sI,DL,zF hdl,go_sem,seval,ai])
     refine aE (m:=0) (σ:=Nat) (fun j=>l.length-j) (fun j=>j<=l.length) (fun j=>[vl (l.map Pr.enc),vs dt,V.one (.sl 0 2 0 (B++(l.take j).filter (fun(p:Pr)=>decide ((c.toNat:Int)<p.key))).length),vi j]) (fun j=>[.arr 2 ((B++(l.take j).filter (fun(p:Pr)=>decide ((c.toNat:Int)<p.key))).map Pr.enc) 0])
      (fun _=>Z) ?_ 0 (zP _) _ _ (at_head2 (by decide) (by simp only[List.map_cons,List.map_nil,go_sem,seval];exact rfl) (by simp[aL,aI,ay,aJ,ax,V.ren,L.ren,Box.ren,V.refs,L.refs,Box.refs,List.append_nil]) (by simp[aL,aI,ay,aJ,ax,V.ren,L.ren,Box.ren,V.refs,L.refs,Box.refs,List.append_nil]))
     intro j h1 R hR;by_cases hi:j<l.length
     ·have g1:=two j hi;have hf:=nl (fun(p:Pr)=>decide ((c.toNat:Int)<p.key)) l j hi
      have hfl:=nI (fun(p:Pr)=>decide ((c.toNat:Int)<p.key)) l j
      obtain⟨p,hp⟩:∃ p,p=l[j]:=⟨_,rfl⟩;rw[<- hp] at g1 hf;by_cases c2:(c.toNat:Int)<p.key
      ·rw[if_pos (zT c2)] at hf;have hR':=hR (j+1) (by omega) (by omega)
       rw[hf] at hR';obtain⟨C,hC⟩:∃ C,C=B++(l.take j).filter (fun(p:Pr)=>decide ((c.toNat:Int)<p.key)):=⟨_,rfl⟩
       have hcl:C.length<=2000001:=by rw[hC,zA];omega
       rw[<- List.append_assoc,<- hC] at hR';rw[<- hC];obtain⟨C',hC',hm1,hm2⟩:∃ C':List Pr,C++[p]=C'∧C.map Pr.enc++[p.enc]=C'.map Pr.enc∧C.length+1=C'.length:=⟨_,rfl,by simp,by simp⟩
       rw[hC'] at hR';(simp(disch:=first|decide|omega|(intros;exact aj rfl rfl)|simp only[aa]) only[iY,g1,Pr.len,Pr.tk,Pr.tkL,Pr.at0,hc0,zT c2,hm1,hm2,go_sem,seval,ai])
       exact hR' _ _ bv
      ·rw[if_neg (by simpa using c2),List.append_nil] at hf
       have hR':=hR (j+1) (by omega) (by omega)
       rw[hf] at hR';generalize B++(l.take j).filter (fun(p:Pr)=>decide ((c.toNat:Int)<p.key))=C at hR' ⊢
       (simp(disch:=first|decide|omega|(intros;exact aj rfl rfl)|simp only[aa]) only[iY,g1,Pr.len,Pr.tk,Pr.tkL,Pr.at0,hc0,zF c2,go_sem,seval,ai])
       exact hR' _ _ bv
     ·have hj2:l.take j=l:=zL (by omega)
      rw[hj2];obtain⟨C,hC⟩:∃ C,C=B++l.filter (fun(p:Pr)=>decide ((c.toNat:Int)<p.key)):=⟨_,rfl⟩
      rw[<- hC] at hz ⊢;rw[hz];have ht:List.take C.length (C.map Pr.enc)=C.map Pr.enc:=zL (by simp)
      (simp(disch:=first|decide|omega|(intros;exact aj rfl rfl)|simp only[aa]) only[iY,DL,ht,go_sem,seval,ai])
      try simp[trim]
   ·have hdl:(1:Int)<(dt.length:Int):=by
     rw[hD];have:=List.length_pos_iff.2 hr;simp;omega
    rw[if_neg hr,<- hB'] at hz;have hb:B'.length<=1000001:=by omega
    by_cases hj:i<l.length
    ·have g1:=two i hj;have c1:¬ l[i].key<(c.toNat:Int):=fun h=>hi ⟨hj,by rw[kat i hj];exact h⟩
     obtain⟨p,hp⟩:∃ p,p=l[i]:=⟨_,rfl⟩;rw[<- hp] at g1 c1;(simp(disch:=first|decide|omega|(intros;exact aj rfl rfl)|simp only[aa]) only[sI,DL,g1,Pr.len,Pr.tk,Pr.tkL,Pr.at0,hc0,hdt,hdr,zF c1,zT hdl,hm,hl2,go_sem,seval,ai])
     refine aE (m:=0) (σ:=Nat) (fun j=>l.length-j) (fun j=>j<=l.length) (fun j=>[vl (l.map Pr.enc),vs dt,V.one (.sl 0 2 0 (B'++(l.take j).filter (fun(p:Pr)=>decide ((c.toNat:Int)<p.key))).length),vi j]) (fun j=>[.arr 2 ((B'++(l.take j).filter (fun(p:Pr)=>decide ((c.toNat:Int)<p.key))).map Pr.enc) 0])
      (fun _=>Z) ?_ 0 (zP _) _ _ (at_head2 (by decide) (by simp only[List.map_cons,List.map_nil,go_sem,seval];exact rfl) (by simp[aL,aI,ay,aJ,ax,V.ren,L.ren,Box.ren,V.refs,L.refs,Box.refs,List.append_nil]) (by simp[aL,aI,ay,aJ,ax,V.ren,L.ren,Box.ren,V.refs,L.refs,Box.refs,List.append_nil]))
     intro j h1 R hR;by_cases hi:j<l.length
     ·have g1:=two j hi;have hf:=nl (fun(p:Pr)=>decide ((c.toNat:Int)<p.key)) l j hi
      have hfl:=nI (fun(p:Pr)=>decide ((c.toNat:Int)<p.key)) l j
      obtain⟨p,hp⟩:∃ p,p=l[j]:=⟨_,rfl⟩;rw[<- hp] at g1 hf;by_cases c2:(c.toNat:Int)<p.key
      ·rw[if_pos (zT c2)] at hf;have hR':=hR (j+1) (by omega) (by omega)
       rw[hf] at hR';obtain⟨C,hC⟩:∃ C,C=B'++(l.take j).filter (fun(p:Pr)=>decide ((c.toNat:Int)<p.key)):=⟨_,rfl⟩
       have hcl:C.length<=2000001:=by rw[hC,zA];omega
       rw[<- List.append_assoc,<- hC] at hR';rw[<- hC];obtain⟨C',hC',hm1,hm2⟩:∃ C':List Pr,C++[p]=C'∧C.map Pr.enc++[p.enc]=C'.map Pr.enc∧C.length+1=C'.length:=⟨_,rfl,by simp,by simp⟩
       rw[hC'] at hR';(simp(disch:=first|decide|omega|(intros;exact aj rfl rfl)|simp only[aa]) only[iY,g1,Pr.len,Pr.tk,Pr.tkL,Pr.at0,hc0,zT c2,hm1,hm2,go_sem,seval,ai])
       exact hR' _ _ bv
      ·rw[if_neg (by simpa using c2),List.append_nil] at hf
       have hR':=hR (j+1) (by omega) (by omega)
       rw[hf] at hR';generalize B'++(l.take j).filter (fun(p:Pr)=>decide ((c.toNat:Int)<p.key))=C at hR' ⊢
       (simp(disch:=first|decide|omega|(intros;exact aj rfl rfl)|simp only[aa]) only[iY,g1,Pr.len,Pr.tk,Pr.tkL,Pr.at0,hc0,zF c2,go_sem,seval,ai])
       exact hR' _ _ bv
     ·have hj2:l.take j=l:=zL (by omega)
      rw[hj2];obtain⟨C,hC⟩:∃ C,C=B'++l.filter (fun(p:Pr)=>decide ((c.toNat:Int)<p.key)):=⟨_,rfl⟩
      rw[<- hC] at hz ⊢;rw[hz];have ht:List.take C.length (C.map Pr.enc)=C.map Pr.enc:=zL (by simp)
      (simp(disch:=first|decide|omega|(intros;exact aj rfl rfl)|simp only[aa]) only[iY,DL,ht,go_sem,seval,ai])
      try simp[trim]
    ·(simp(disch:=first|decide|omega|(intros;exact aj rfl rfl)|simp only[aa]) only[sI,DL,hc0,hdt,hdr,zT hdl,hm,hl2,go_sem,seval,ai])
     refine aE (m:=0) (σ:=Nat) (fun j=>l.length-j) (fun j=>j<=l.length) (fun j=>[vl (l.map Pr.enc),vs dt,V.one (.sl 0 2 0 (B'++(l.take j).filter (fun(p:Pr)=>decide ((c.toNat:Int)<p.key))).length),vi j]) (fun j=>[.arr 2 ((B'++(l.take j).filter (fun(p:Pr)=>decide ((c.toNat:Int)<p.key))).map Pr.enc) 0])
      (fun _=>Z) ?_ 0 (zP _) _ _ (at_head2 (by decide) (by simp only[List.map_cons,List.map_nil,go_sem,seval];exact rfl) (by simp[aL,aI,ay,aJ,ax,V.ren,L.ren,Box.ren,V.refs,L.refs,Box.refs,List.append_nil]) (by simp[aL,aI,ay,aJ,ax,V.ren,L.ren,Box.ren,V.refs,L.refs,Box.refs,List.append_nil]))
     intro j h1 R hR;by_cases hi:j<l.length
     ·have g1:=two j hi;have hf:=nl (fun(p:Pr)=>decide ((c.toNat:Int)<p.key)) l j hi
      have hfl:=nI (fun(p:Pr)=>decide ((c.toNat:Int)<p.key)) l j
      obtain⟨p,hp⟩:∃ p,p=l[j]:=⟨_,rfl⟩;rw[<- hp] at g1 hf;by_cases c2:(c.toNat:Int)<p.key
      ·rw[if_pos (zT c2)] at hf;have hR':=hR (j+1) (by omega) (by omega)
       rw[hf] at hR';obtain⟨C,hC⟩:∃ C,C=B'++(l.take j).filter (fun(p:Pr)=>decide ((c.toNat:Int)<p.key)):=⟨_,rfl⟩
       have hcl:C.length<=2000001:=by rw[hC,zA];omega
       rw[<- List.append_assoc,<- hC] at hR';rw[<- hC];obtain⟨C',hC',hm1,hm2⟩:∃ C':List Pr,C++[p]=C'∧C.map Pr.enc++[p.enc]=C'.map Pr.enc∧C.length+1=C'.length:=⟨_,rfl,by simp,by simp⟩
       rw[hC'] at hR';(simp(disch:=first|decide|omega|(intros;exact aj rfl rfl)|simp only[aa]) only[iY,g1,Pr.len,Pr.tk,Pr.tkL,Pr.at0,hc0,zT c2,hm1,hm2,go_sem,seval,ai])
       exact hR' _ _ bv
      ·rw[if_neg (by simpa using c2),List.append_nil] at hf
       have hR':=hR (j+1) (by omega) (by omega)
       rw[hf] at hR';generalize B'++(l.take j).filter (fun(p:Pr)=>decide ((c.toNat:Int)<p.key))=C at hR' ⊢
       (simp(disch:=first|decide|omega|(intros;exact aj rfl rfl)|simp only[aa]) only[iY,g1,Pr.len,Pr.tk,Pr.tkL,Pr.at0,hc0,zF c2,go_sem,seval,ai])
       exact hR' _ _ bv
     ·have hj2:l.take j=l:=zL (by omega)
      rw[hj2];obtain⟨C,hC⟩:∃ C,C=B'++l.filter (fun(p:Pr)=>decide ((c.toNat:Int)<p.key)):=⟨_,rfl⟩
      rw[<- hC] at hz ⊢;rw[hz];have ht:List.take C.length (C.map Pr.enc)=C.map Pr.enc:=zL (by simp)
      (simp(disch:=first|decide|omega|(intros;exact aj rfl rfl)|simp only[aa]) only[iY,DL,ht,go_sem,seval,ai])
      try simp[trim]
def vX (p:Pr):List UInt8:=UInt8.ofNat p.key.toNat::(au p.val.length++p.val)
def cC (l:List Pr):List UInt8:=au l.length++l.flatMap vX
theorem BP (l:List Pr) (hl:l.length<=1000000) (hb:(cC l).length<=1000000000) (hk:∀ p∈l,0<=p.key∧p.key<256):call 117 [vl (l.map Pr.enc)] []=some (vs (cC l),[]):=by
 apply ah Mj rfl;have h0:=gm l.length (by omega)
 (simp(disch:=first|decide|omega|(intros;exact aj rfl rfl)|simp only[aa]) only[JM,h0,go_sem,seval,ai])
 refine aE (m:=0) (σ:=Nat) (fun i=>l.length-i) (fun i=>i<=l.length) (fun i=>[vl (l.map Pr.enc),vs (au l.length++(l.take i).flatMap vX),vi i]) (fun _=>[])
  (fun _=>(vs (cC l),[])) ?_ 0 (zP _) _ _ (at_head2 (by decide) (by simp only[List.map_cons,List.map_nil,go_sem,seval];exact rfl) (by simp[aL,aI,ay,aJ,ax,V.ren,L.ren,Box.ren,V.refs,L.refs,Box.refs,List.append_nil]) (by simp[aL,aI,ay,aJ,ax,V.ren,L.ren,Box.ren,V.refs,L.refs,Box.refs,List.append_nil]))
 intro i h1 R hR;by_cases hi:i<l.length
 ·have g1:(l.map Pr.enc)[i]?=some l[i].enc:=by rw[zG,zE hi];rfl
  have hnx:au l.length++(l.take (i+1)).flatMap vX=(au l.length++(l.take i).flatMap vX)++vX l[i]:=by
   rw[zO hi,List.flatMap_append];simp
  have hle:((au l.length++(l.take i).flatMap vX)++vX l[i]).length<=1000000000:=by
   rw[<- hnx];refine Nat.le_trans ?_ hb;have e:l.flatMap vX=(l.take (i+1)).flatMap vX++(l.drop (i+1)).flatMap vX:=by rw[<- List.flatMap_append,zY]
   rw[cC,e];simp;try omega
  have hR':=hR (i+1) (by omega) (by omega)
  rw[hnx] at hR';obtain⟨p,hp⟩:∃ p,p=l[i]:=⟨_,rfl⟩;rw[<- hp] at g1 hle hR';obtain⟨S,hS⟩:∃ S,S=au l.length++(l.take i).flatMap vX:=⟨_,rfl⟩;rw[<- hS] at hle hR' ⊢;have hpb:(vX p).length=1+(au p.val.length).length+p.val.length:=by simp[vX];omega
  rw[zA] at hle;have hput:=gm p.val.length (by omega)
  have hbo:dL [[.i .u8 p.key]]=some [UInt8.ofNat p.key.toNat]:=rfl;rw[show S++vX p=((S++[UInt8.ofNat p.key.toNat])++au p.val.length)++p.val by simp[vX]] at hR'
  rw[hpb] at hle;obtain⟨E,hE⟩:∃ E,E=au p.val.length:=⟨_,rfl⟩;rw[<- hE] at hR' hput hle;have q1:(S++[UInt8.ofNat p.key.toNat]).length=S.length+1:=by simp
  have q2:((S++[UInt8.ofNat p.key.toNat])++E).length=S.length+1+E.length:=by simp;omega
  obtain⟨S1,hS1⟩:∃ S1,S1=S++[UInt8.ofNat p.key.toNat]:=⟨_,rfl⟩;rw[<- hS1] at q1 q2 hR';obtain⟨S2,hS2⟩:∃ S2,S2=S1++E:=⟨_,rfl⟩;rw[<- hS2] at q2 hR';(simp(disch:=first|decide|omega|(intros;exact aj rfl rfl)|simp only[aa]) only[xD,g1,Pr.len,Pr.tk,Pr.tkL,Pr.at0,Pr.at1,hbo,hput,<- hS1,<- hS2,go_sem,seval,ai,bg,A.kind,A.xs,aG,A.isN])
  exact hR' _ _ bv
 ·have ht:l.take i=l:=zL (by omega)
  rw[ht];(simp(disch:=first|decide|omega|(intros;exact aj rfl rfl)|simp only[aa]) only[xD,JM,go_sem,seval,ai,bg,A.kind,A.xs,aG,A.isN])
  try simp[trim,cC]
structure SZ (seg:Int) (M:List SR) (g:Seg):Prop where
 old:∀ p∈M,seg<=p.1.size∧p.1.size<=seg+90
 last:g.size<=seg+90
def Mh (f seg:Int) (s:Sto) (R:List Rec):Prop:=∃ M g l,Inv f s M g l∧SZ seg M g∧iM (M++[(g,l)])=R
theorem pu (s:Txt):call 20 [vs s] []=some (vb (hI s),[]):=by
 apply ah N6 rfl;unfold hI;cases s with
 | nil=>(simp(disch:=first|decide|omega|(intros;exact aj rfl rfl)|simp only[aa]) only[LH,go_sem,seval,ai]);try rfl
 | cons a r =>
  have h1:(1:Int)<=((a::r).length:Nat):=by simp;omega
  generalize hq:(a::r)=q at *;have h2:q≠[]:=by rw[<- hq];simp
  by_cases c:q.length<=32
  ·(simp(disch:=first|decide|omega|(intros;exact aj rfl rfl)|simp only[aa]) only[LH,h1,c,go_sem,seval,ai])
   simp[h2]
  ·(simp(disch:=first|decide|omega|(intros;exact aj rfl rfl)|simp only[aa]) only[LH,h1,c,go_sem,seval,ai])
   simp[h2]
def md (l:List Fil) (n:Txt):Int:=if bA l n=true then(aw l n:Nat) else -1
theorem oU {l:List Fil} (hs:srt l) (n:Txt) (i:Nat) (h:i<l.length):l[i].name=n↔(bA l n=true∧i=aw l n):=by
 constructor
 ·rintro rfl;exact⟨vQ hs (zN h),(Fa hs i h).symm⟩
 ·rintro⟨h1,rfl⟩;obtain⟨hp,he⟩:=bM h1;exact he
theorem dH (d:Dsk) (hl:d.files.length<=1000000) (hs:srt d.files) (n:Txt):call 60 [.agg d.l,vs n] []=some (vi (md d.files n),[]):=by
 apply ah Ou rfl;obtain⟨fl,cp,ar,lf,dn⟩:=d;simp only at hl hs ⊢;obtain⟨Z,hZ⟩:∃ Z:V,Z=vi (md fl n):=⟨_,rfl⟩;rw[<- hZ];(simp(disch:=first|decide|omega|(intros;exact aj rfl rfl)|simp only[aa]) only[NC,Dsk.l,go_sem,seval,ai])
 refine aE (m:=0) (σ:=Nat) (fun i=>fl.length-i) (fun i=>i<=fl.length∧(bA fl n=true->i<=aw fl n)) (fun i=>[vs n,V.one (.p 0 0),vi i])
  (fun _=>[.cells [.d (.l (fl.map Fil.enc)),zI cp,zB ar,zI lf,zB dn]]) (fun _=>(Z,[])) ?_ 0 ⟨zP _,fun _=>zP _⟩ _ _ ?_
 rotate_left
 ·exact bv
 rintro i ⟨hi,hp⟩ R hR;by_cases c:i<fl.length
 ·have g1:(fl.map Fil.enc)[i]?=some fl[i].enc:=by simp[c]
  have hk:=oU hs n i c;by_cases c2:fl[i].name=n
  ·have e:(fl[i].name == n)=true:=by rw[c2];exact beq_self_eq_true _
   obtain⟨h1,h2⟩:=hk.1 c2;have hz:md fl n=i:=by unfold md;rw[if_pos h1,<- h2]
   rw[hz] at hZ;(simp(disch:=first|decide|omega|(intros;exact aj rfl rfl)|simp only[aa]) only[AB,c,g1,Fil.len,Fil.at0,e,go_sem,seval,ai])
   rw[hZ];try simp[trim]
  ·have e:(fl[i].name == n)=false:=by rw[beq_eq_false_iff_ne];exact c2
   (simp(disch:=first|decide|omega|(intros;exact aj rfl rfl)|simp only[aa]) only[AB,c,g1,Fil.len,Fil.at0,e,go_sem,seval,ai])
   exact hR (i+1) (by omega) ⟨by omega,fun h=>by
    have:=hp h;rcases Nat.lt_or_ge i (aw fl n) with h3|h3
    ·omega
    ·exact absurd (hk.2 ⟨h,by omega⟩) c2⟩ _ _ bv
 ·have hz:md fl n = -1:=by
   unfold md;rw[if_neg];intro h;obtain⟨h1,_⟩:=bM h;have:=hp h;omega
  rw[hz] at hZ;(simp(disch:=first|decide|omega|(intros;exact aj rfl rfl)|simp only[aa]) only[AB,c,go_sem,seval,ai])
  rw[hZ];try simp[trim]
theorem yn (d:Dsk) (hl:d.files.length<=1000000) (hu:usedF d.files<=1000000000000):call 83 [.agg d.l] []=some (vi (usedF d.files:Nat),[]):=by
 apply ah N5 rfl;obtain⟨fl,cp,ar,lf,dn⟩:=d;simp only at hl hu ⊢;(simp(disch:=first|decide|omega|(intros;exact aj rfl rfl)|simp only[aa]) only[Nv,Dsk.l,go_sem,seval,ai])
 refine aE (m:=0) (σ:=Nat) (fun i=>fl.length-i) (fun i=>i<=fl.length) (fun i=>[V.one (.p 0 0),vi (usedF (fl.take i):Nat),vi i])
  (fun _=>[.cells [.d (.l (fl.map Fil.enc)),zI cp,zB ar,zI lf,zB dn]]) (fun _=>(vi (usedF fl:Nat),[])) ?_ 0 (zP _) _ _ ?_
 rotate_left
 ·exact bv
 intro i hi R hR;by_cases c:i<fl.length
 ·have g1:(fl.map Fil.enc)[i]?=some fl[i].enc:=by simp[c]
  have hK:=hR (i+1) (by omega) (by omega)
  have e1:usedF (fl.take (i+1))=usedF (fl.take i)+fl[i].data.length:=by rw[zO c,bV,fj]
  have h2:=lC fl (i+1);rw[e1] at hK h2;have e2:((usedF (fl.take i)+fl[i].data.length:Nat):Int)=(usedF (fl.take i):Int)+(fl[i].data.length:Int):=by omega
  rw[e2] at hK;(simp(disch:=first|decide|omega|(intros;exact aj rfl rfl)|simp only[aa]) only[DJ,c,g1,Fil.len,Fil.at1,go_sem,seval,ai])
  exact hK _ _ bv
 ·have e:fl.take i=fl:=zL (by omega)
  rw[e];(simp(disch:=first|decide|omega|(intros;exact aj rfl rfl)|simp only[aa]) only[DJ,c,go_sem,seval,ai])
  try simp[trim]
def mN (l:List Fil) (n:Txt):List Fil:=l.filter fun f=>decide (f.name≠n)
def HS (l:List Fil) (f:Fil):List Fil:=gt (mN l f.name) (aw (mN l f.name) f.name) f
theorem Ar (l:List Fil) (n:Txt):(mN l n).length<=l.length:=List.length_filter_le _ _
theorem He {l:List Fil} (hs:srt l) (n:Txt):srt (mN l n):=List.Pairwise.filter _ hs
theorem jQ (l:List Fil) (hl:l.length<=1000000) (n:Txt):call 115 [vl (l.map Fil.enc),vs n] []=some (vl ((mN l n).map Fil.enc),[]):=by
 apply ah Ms rfl;obtain⟨Z,hZ⟩:∃ Z:V,Z=vl ((mN l n).map Fil.enc):=⟨_,rfl⟩;rw[<- hZ];(simp(disch:=first|decide|omega|(intros;exact aj rfl rfl)|simp only[aa]) only[Kl,go_sem,seval,ai])
 refine aE (m:=0) (σ:=Nat) (fun i=>l.length-i) (fun i=>i<=l.length) (fun i=>[vl (l.map Fil.enc),vs n,V.one (.sl 0 3 0 (mN (l.take i) n).length),vi i])
  (fun i=>[.arr 3 ((mN (l.take i) n).map Fil.enc) 0]) (fun _=>(Z,[])) ?_ 0 (zP _) _ _ ?_
 rotate_left
 ·exact bv
 intro i hi R hR;have hln:((mN (l.take i) n).map Fil.enc).length=(mN (l.take i) n).length:=by simp
 have hle:(mN (l.take i) n).length<=1000000:=Nat.le_trans (Ar _ _) (by simp;omega)
 by_cases c:i<l.length
 ·have g1:(l.map Fil.enc)[i]?=some l[i].enc:=by simp[c]
  have hK:=hR (i+1) (by omega) (by omega)
  by_cases c2:l[i].name=n
  ·have e:(l[i].name == n)=true:=by rw[c2];exact beq_self_eq_true _
   have e1:mN (l.take (i+1)) n=mN (l.take i) n:=by
    rw[zO c];unfold mN;rw[List.filter_append];simp[c2]
   rw[e1] at hK;(simp(disch:=first|decide|omega|(intros;exact aj rfl rfl)|simp only[aa]) only[tQ,c,g1,Fil.len,Fil.at0,e,go_sem,seval,ai])
   exact hK _ _ bv
  ·have e:(l[i].name == n)=false:=by rw[beq_eq_false_iff_ne];exact c2
   have e1:mN (l.take (i+1)) n=mN (l.take i) n++[l[i]]:=by
    rw[zO c];unfold mN;rw[List.filter_append];simp[c2]
   rw[e1,List.map_append,zA,List.length_singleton] at hK;generalize (mN (l.take i) n).map Fil.enc=Q at *;generalize (mN (l.take i) n).length=q at *;generalize l[i]=f at *;obtain⟨fn,fd,fs⟩:=f;simp only[Fil.enc,List.map_cons,List.map_nil] at g1 e hK;(simp(disch:=first|decide|omega|(intros;exact aj rfl rfl)|simp only[aa]) only[tQ,c,g1,e,hln,go_sem,seval,ai])
   exact hK _ _ bv
 ·have e:l.take i=l:=zL (by omega)
  rw[e] at hln hle ⊢;have ht:((mN l n).map Fil.enc).take (mN l n).length=(mN l n).map Fil.enc:=zL (by omega)
  generalize (mN l n).map Fil.enc=Q at *;generalize (mN l n).length=q at *;(simp(disch:=first|decide|omega|(intros;exact aj rfl rfl)|simp only[aa]) only[tQ,c,hln,ht,go_sem,seval,ai])
  rw[hZ];try simp[trim]
theorem jk (l:List Fil) (hl:l.length<=1000000) (hs:srt l) (f:Fil):call 71 [vl (l.map Fil.enc),.agg (f.enc.map .d)] []=some (vl ((HS l f).map Fil.enc),[]):=by
 have q1:=jQ l hl f.name;have hml:=Ar l f.name;have hms:=He hs f.name;apply ah OU rfl;unfold HS;generalize mN l f.name=m at *;have hpi:=gC hms f.name;have hple:=mq m f.name;have hin:(gt m (aw m f.name) f).map Fil.enc=(m.map Fil.enc).take (aw m f.name)++[f.enc]++(m.map Fil.enc).drop (aw m f.name):=by
  rw[<- um];simp
 rw[hin];generalize hpp:aw m f.name=pp at *;obtain⟨fn,fd,fs⟩:=f;simp only[Fil.enc,List.map_cons,List.map_nil] at *;(simp(disch:=first|decide|omega|(intros;exact aj rfl rfl)|simp only[aa]) only[No,q1,go_sem,seval,ai])
 refine aE (m:=0) (σ:=Nat) (fun i=>pp-i) (fun i=>i<=pp) (fun i=>[vl (m.map Fil.enc),V.one (.p 0 0),vi i])
  (fun _=>[.cells [zS fn,zS fd,zI fs]]) (fun _=>(vl ((m.map Fil.enc).take pp++[[.s fn,.s fd,.i .i64 fs]]++(m.map Fil.enc).drop pp),[])) ?_ 0 (zP _) _ _ ?_
 rotate_left
 ·exact bv
 intro i hi R hR;have hend:i=pp->∀ (b:Bool),True:=fun _ _=>trivial
 by_cases c:i<m.length
 ·have g1:(m.map Fil.enc)[i]?=some m[i].enc:=by simp[c]
  have hb:=hpi i c;by_cases c2:i<pp
  ·have e:Op.bytesLess m[i].name fn=true:=hb.2 c2;(simp(disch:=first|decide|omega|(intros;exact aj rfl rfl)|simp only[aa]) only[Ae,c,g1,Fil.len,Fil.at0,e,go_sem,seval,ai])
   exact hR (i+1) (by omega) (by omega) _ _ bv
  ·have e:Op.bytesLess m[i].name fn=false:=by
    cases h:Op.bytesLess m[i].name fn with
    | true=>exact absurd (hb.1 h) c2
    | false=>rfl
   have hip:i=pp:=by omega
   subst hip;have hb1:=tE (n:=m.length) (k:=i) (by omega)
   have hb2:=tv (n:=m.length) (k:=i) (by omega)
   have hok:aQ 3 (m.map Fil.enc)=true:=a8 Fil.len m;have hok1:aQ 3 ((m.map Fil.enc).take i)=true:=by rw[<- List.map_take];exact a8 Fil.len _
   have hok2:aQ 3 ((m.map Fil.enc).drop i)=true:=by rw[<- List.map_drop];exact a8 Fil.len _
   have htk:(m.map Fil.enc).take m.length=m.map Fil.enc:=zL (by simp)
   have hmm:(m.map Fil.enc).length=m.length:=by simp
   generalize m.map Fil.enc=MQ at *;obtain⟨Q1,hQ1⟩:∃ Q1,MQ.take i=Q1:=⟨_,rfl⟩;obtain⟨Q2,hQ2⟩:∃ Q2,MQ.drop i=Q2:=⟨_,rfl⟩;have hq1:Q1.length<=1000000:=by rw[<- hQ1,zQ];omega
   have hq2:Q2.length<=1000000:=by rw[<- hQ2,zH];omega
   rw[hQ1] at hok1 ⊢;rw[hQ2] at hok2 ⊢;(simp(disch:=first|decide|omega|(intros;exact aj rfl rfl)|simp only[aa]) only[aH,Ae,c,g1,Fil.len,Fil.at0,e,hb1,hb2,hok,hok1,hok2,htk,hmm,hQ1,hQ2,go_sem,seval,ai,bg,A.kind,A.xs,aG,A.isN])
   simp[zR];exact zL (by simp;omega)
 ·have hip:i=pp:=by omega
  subst hip;have him:i=m.length:=by omega
  have hb1:=tE (n:=m.length) (k:=i) (by omega)
  have hb2:=tv (n:=m.length) (k:=i) (by omega)
  have hok:aQ 3 (m.map Fil.enc)=true:=a8 Fil.len m;have hok1:aQ 3 ((m.map Fil.enc).take i)=true:=by rw[<- List.map_take];exact a8 Fil.len _
  have hok2:aQ 3 ((m.map Fil.enc).drop i)=true:=by rw[<- List.map_drop];exact a8 Fil.len _
  have htk:(m.map Fil.enc).take m.length=m.map Fil.enc:=zL (by simp)
  have hmm:(m.map Fil.enc).length=m.length:=by simp
  generalize m.map Fil.enc=MQ at *;obtain⟨Q1,hQ1⟩:∃ Q1,MQ.take i=Q1:=⟨_,rfl⟩;obtain⟨Q2,hQ2⟩:∃ Q2,MQ.drop i=Q2:=⟨_,rfl⟩;have hq1:Q1.length<=1000000:=by rw[<- hQ1,zQ];omega
  have hq2:Q2.length<=1000000:=by rw[<- hQ2,zH];omega
  rw[hQ1] at hok1 ⊢;rw[hQ2] at hok2 ⊢;(simp(disch:=first|decide|omega|(intros;exact aj rfl rfl)|simp only[aa]) only[aH,Ae,c,hb1,hb2,hok,hok1,hok2,htk,hmm,hQ1,hQ2,go_sem,seval,ai,bg,A.kind,A.xs,aG,A.isN])
  simp[zR];exact zL (by simp;omega)
theorem ba (d:Dsk) (hL:0<=d.left∧d.left<9223372036854775808) (l:List Fil) (own:Int):call 70 [.agg d.l,vl (l.map Fil.enc),vi own] []=some (aR (aA d (l,own)),[]):=by
 apply ah Pe rfl;obtain⟨fl,cp,ar,lf,dn⟩:=d;unfold aA aR;simp only at hL ⊢;cases dn with
 | true =>
  (simp(disch:=first|decide|omega|(intros;exact aj rfl rfl)|simp only[aa]) only[aH,JX,Dsk.l,go_sem,seval,ai])
  try simp[trim]
 | false =>
  by_cases c:own=0
  ·subst c;cases ar with
   | false =>
    (simp(disch:=first|decide|omega|(intros;exact aj rfl rfl)|simp only[aa]) only[aH,JX,Dsk.l,go_sem,seval,ai])
    try simp[trim]
   | true =>
    by_cases c2:lf=0
    ·subst c2;(simp(disch:=first|decide|omega|(intros;exact aj rfl rfl)|simp only[aa]) only[aH,JX,Dsk.l,go_sem,seval,ai])
     try simp[trim]
    ·have e:(lf == 0)=false:=by simpa using c2
     (simp(disch:=first|decide|omega|(intros;exact aj rfl rfl)|simp only[aa]) only[aH,JX,Dsk.l,c2,e,go_sem,seval,ai])
     try simp[trim,c2]
  ·(simp(disch:=first|decide|omega|(intros;exact aj rfl rfl)|simp only[aa]) only[aH,JX,Dsk.l,c,go_sem,seval,ai])
   try simp[trim,c]
theorem JN {l:List Fil} (hs:srt l) {n:Txt} (h:bA l n=false):mN l n=l:=by
 unfold mN;rw[List.filter_eq_self];intro f hf;simpa using oH hs h f hf
theorem uM {l:List Fil} (hs:srt l) {n:Txt} (h:bA l n=true):mN l n=cR l (aw l n):=by
 obtain⟨hp,he⟩:=bM h;have hne:∀ i (hi:i<l.length),i≠aw l n->l[i].name≠n:=fun i hi h1 h2=>h1 ((oU hs n i hi).1 h2).2
 have e:l=l.take (aw l n)++(l[aw l n]::l.drop (aw l n+1)):=by rw[<- zD hp,zY]
 unfold mN cR;conv=>lhs;rw[e]
 rw[List.filter_append,List.filter_cons_of_neg (by simp[he]),List.filter_eq_self.2,List.filter_eq_self.2]
 ·intro f hf;obtain⟨i,hi,rfl⟩:=zJ hf;rw[List.getElem_drop];rw[zH] at hi;simpa using hne _ (by omega) (by omega)
 ·intro f hf;obtain⟨i,hi,rfl⟩:=zJ hf;rw[List.getElem_take];rw[zQ] at hi;simpa using hne _ (by omega) (by omega)
theorem GE {l:List Fil} (hs:srt l) {n:Txt} (h:bA l n=true):aw (cR l (aw l n)) n=aw l n:=by
 obtain⟨hp,he⟩:=bM h;have h1:(l.take (aw l n)).countP (fun f=>bl f.name n)=aw l n:=by
  conv=>rhs;rw[<- Nat.min_eq_left (Nat.le_of_lt hp),<- zQ]
  rw[List.countP_eq_length];intro f hf;obtain⟨i,hi,rfl⟩:=zJ hf;rw[List.getElem_take];rw[zQ] at hi;exact(gC hs n i (by omega)).2 (by omega)
 have h2:(l.drop (aw l n+1)).countP (fun f=>bl f.name n)=0:=by
  rw[List.countP_eq_zero];intro f hf;obtain⟨i,hi,rfl⟩:=zJ hf;rw[List.getElem_drop];rw[zH] at hi;intro h3;have:=(gC hs n _ (by omega)).1 h3
  omega
 unfold cR;show List.countP _ _=_;rw[List.countP_append,h1,h2];rfl
theorem D2 {l:List Fil} (hs:srt l) (f:Fil) (h:bA l f.name=false):HS l f=gt l (aw l f.name) f:=by unfold HS;rw[JN hs h]
theorem pP {l:List Fil} (hs:srt l) (f:Fil) (h:bA l f.name=true):HS l f=l.set (aw l f.name) f:=by
 unfold HS;rw[uM hs h,GE hs h];obtain⟨hp,he⟩:=bM h;generalize aw l f.name=p at *;unfold gt cR;rw[List.set_eq_take_append_cons_drop,if_pos hp];have hl:(l.take p).length=p:=by simp;omega
 congr 1
 ·rw[List.take_append_of_le_length (by omega),zL (by omega)]
 ·congr 1
  rw[List.drop_append_of_le_length (by omega),List.drop_of_length_le (by omega),List.nil_append]
theorem Hr {l:List Fil} (hs:srt l) (f:Fil):HS l f=jD l f:=by
 unfold jD;cases h:bA l f.name with
 | true=>rw[if_pos rfl];exact pP hs f h
 | false=>rw[if_neg (by simp)];exact D2 hs f h
theorem gi {l:List Fil} {n:Txt} (h:bA l n=false):md l n = -1:=by unfold md;rw[h];rfl
theorem eN {l:List Fil} {n:Txt} (h:bA l n=true):md l n=(aw l n:Nat):=by unfold md;rw[if_pos h]
theorem fw (d:Dsk) (hd:d.ok) (n:Txt):call 77 [.agg d.l,vs n] []=some (aR (aA d (cN d.files n)),[]):=by
 apply ah OO rfl;have h1:=pu n;have h2:=dH d hd.len hd.srt n;have h3:=jk d.files hd.len hd.srt ⟨n,[],0⟩;have h4:=ba d hd.left [] 1;have h5:=ba d hd.left [] 8;have h6:=ba d hd.left (HS d.files ⟨n,[],0⟩) 0;unfold cN;cases c1:hI n with
 | false =>
  rw[c1] at h1;rw[if_neg (by simp)]
  generalize aA d ([],1)=r at *;obtain⟨⟨f2,cp2,ar2,lf2,dn2⟩,e2⟩:=r;obtain⟨fl,cp,ar,lf,dn⟩:=d;simp only[aR,Dsk.l,List.map_nil] at h4 ⊢;(simp(disch:=first|decide|omega|(intros;exact aj rfl rfl)|simp only[aa]) only[aH,Lx,h1,h4,go_sem,seval,ai])
  try simp[trim]
 | true =>
  rw[c1] at h1;rw[if_pos rfl];cases c2:bA d.files n with
  | true =>
   rw[if_pos rfl];rw[eN c2] at h2;generalize aA d ([],8)=r at *;obtain⟨⟨f2,cp2,ar2,lf2,dn2⟩,e2⟩:=r;obtain⟨fl,cp,ar,lf,dn⟩:=d;simp only[aR,Dsk.l,List.map_nil] at h2 h5 ⊢;(simp(disch:=first|decide|omega|(intros;exact aj rfl rfl)|simp only[aa]) only[aH,Lx,h1,h2,h5,go_sem,seval,ai])
   try simp[trim]
  | false =>
   rw[if_neg (by simp)]
   rw[gi c2] at h2;rw[D2 hd.srt ⟨n,[],0⟩ c2] at h3 h6;simp only[] at h3 h6;generalize gt d.files (aw d.files n) ⟨n,[],0⟩=q at *;generalize aA d (q,0)=r at *;obtain⟨⟨f2,cp2,ar2,lf2,dn2⟩,e2⟩:=r;obtain⟨fl,cp,ar,lf,dn⟩:=d;simp only[aR,Dsk.l,Fil.enc,List.map_cons,List.map_nil] at h2 h3 h6 ⊢;(simp(disch:=first|decide|omega|(intros;exact aj rfl rfl)|simp only[aa]) only[aH,Lx,h1,h2,h3,h6,go_sem,seval,ai])
   try simp[trim]
theorem cG (d:Dsk) (hd:d.ok) (n:Txt):call 69 [.agg d.l,vs n] []=some (aR (aA d (b7 d.files n)),[]):=by
 apply ah OE rfl;have h2:=dH d hd.len hd.srt n;have h3:=jQ d.files hd.len n;have h4:=ba d hd.left [] 7;have h6:=ba d hd.left (mN d.files n) 0;unfold b7;cases c2:bA d.files n with
 | false =>
  rw[if_neg (by simp)]
  rw[gi c2] at h2;generalize aA d ([],7)=r at *;obtain⟨⟨f2,cp2,ar2,lf2,dn2⟩,e2⟩:=r;obtain⟨fl,cp,ar,lf,dn⟩:=d;simp only[aR,Dsk.l,List.map_nil] at h2 h4 ⊢;(simp(disch:=first|decide|omega|(intros;exact aj rfl rfl)|simp only[aa]) only[aH,MK,h2,h4,go_sem,seval,ai])
  try simp[trim]
 | true =>
  rw[if_pos rfl];rw[eN c2] at h2;rw[uM hd.srt c2] at h3 h6;generalize cR d.files (aw d.files n)=q at *;generalize aA d (q,0)=r at *;obtain⟨⟨f2,cp2,ar2,lf2,dn2⟩,e2⟩:=r;obtain⟨fl,cp,ar,lf,dn⟩:=d;simp only[aR,Dsk.l] at h2 h3 h6 ⊢;(simp(disch:=first|decide|omega|(intros;exact aj rfl rfl)|simp only[aa]) only[aH,MK,h2,h3,h6,go_sem,seval,ai])
  try simp[trim]
theorem fK (d:Dsk) (hd:d.ok) (n:Txt):call 36 [.agg d.l,vs n] []=some (aR (aA d (di d.files n)),[]):=by
 apply ah Of rfl;have h2:=dH d hd.len hd.srt n;have h4:=ba d hd.left [] 7;unfold di;cases c2:bA d.files n with
 | false =>
  rw[if_neg (by simp)]
  rw[gi c2] at h2;generalize aA d ([],7)=r at *;obtain⟨⟨f2,cp2,ar2,lf2,dn2⟩,e2⟩:=r;obtain⟨fl,cp,ar,lf,dn⟩:=d;simp only[aR,Dsk.l,List.map_nil] at h2 h4 ⊢;(simp(disch:=first|decide|omega|(intros;exact aj rfl rfl)|simp only[aa]) only[aH,L0,h2,h4,go_sem,seval,ai])
  try simp[trim]
 | true =>
  rw[if_pos rfl];rw[eN c2] at h2;obtain⟨hp,he⟩:=bM c2;rw[iz hp];have g1:(d.files.map Fil.enc)[aw d.files n]?=some d.files[aw d.files n].enc:=by simp[hp]
  have hdl:=iZ d.files _ hp;have hu:=hd.used;have h3:=jk d.files hd.len hd.srt { d.files[aw d.files n] with sure:=d.files[aw d.files n].data.length }
  have h5:=pP hd.srt { d.files[aw d.files n] with sure:=d.files[aw d.files n].data.length } (by simp only[he];exact c2)
  rw[h5] at h3;simp only[he] at h3;have hK:=ba d hd.left (d.files.set (aw d.files n) { d.files[aw d.files n] with sure:=d.files[aw d.files n].data.length }) 0
  have hpl:=hd.len;generalize aw d.files n=p at *;simp only[he] at hK ⊢;generalize d.files[p]=f at *;obtain⟨fn,fd,fs⟩:=f;simp only at he h3 hK hdl ⊢;subst he;generalize d.files.set p ⟨fn,fd,fd.length⟩=q at *;generalize aA d (q,0)=r at *;obtain⟨⟨f2,cp2,ar2,lf2,dn2⟩,e2⟩:=r;obtain⟨fl,cp,ar,lf,dn⟩:=d;simp only[aR,Dsk.l,Fil.enc,List.map_cons,List.map_nil] at g1 h2 h3 hK hp hpl ⊢;(simp(disch:=first|decide|omega|(intros;exact aj rfl rfl)|simp only[aa]) only[aH,L0,h2,g1,h3,hK,go_sem,seval,ai])
  try simp[trim]
theorem gH (d:Dsk) (hd:d.ok) (n x:Txt) (hx:x.length<=1000000000000):call 46 [.agg d.l,vs n,vs x] []=some (aR (aA d (dg d.files d.cap n x)),[]):=by
 apply ah OT rfl;have h2:=dH d hd.len hd.srt n;have h4:=ba d hd.left [] 7;have h9:=ba d hd.left [] 9;have hus:=yn d hd.len hd.used;have hul:=hd.used;have hcp:=hd.cap;unfold dg;cases c2:bA d.files n with
 | false =>
  rw[if_neg (by simp)]
  rw[gi c2] at h2;generalize aA d ([],7)=r at *;obtain⟨⟨f2,cp2,ar2,lf2,dn2⟩,e2⟩:=r;obtain⟨fl,cp,ar,lf,dn⟩:=d;simp only[aR,Dsk.l,List.map_nil] at h2 h4 ⊢;(simp(disch:=first|decide|omega|(intros;exact aj rfl rfl)|simp only[aa]) only[aH,J9,h2,h4,go_sem,seval,ai])
  try simp[trim]
 | true =>
  rw[if_pos rfl];rw[eN c2] at h2;obtain⟨hp,he⟩:=bM c2;by_cases c:0<d.cap∧d.cap-(usedF d.files:Nat)<x.length
  ·rw[if_pos c];obtain⟨c3,c4⟩:=c;have c5:d.cap<(usedF d.files:Nat)+(x.length:Int):=by omega
   generalize aA d ([],9)=r at *;obtain⟨⟨f2,cp2,ar2,lf2,dn2⟩,e2⟩:=r;obtain⟨fl,cp,ar,lf,dn⟩:=d;have hpl:=hd.len;simp only[aR,Dsk.l,List.map_nil] at h2 h9 hus hul hcp c3 c4 c5 hp hpl ⊢;generalize aw fl n=p at *;(simp(disch:=first|decide|omega|(intros;exact aj rfl rfl)|simp only[aa]) only[aH,J9,h2,c3,hus,c5,h9,go_sem,seval,ai])
   try simp[trim]
  ·rw[if_neg c,iz hp];have g1:(d.files.map Fil.enc)[aw d.files n]?=some d.files[aw d.files n].enc:=by simp[hp]
   have hdl:=iZ d.files _ hp;have h3:=jk d.files hd.len hd.srt { d.files[aw d.files n] with data:=d.files[aw d.files n].data++x }
   have h5:=pP hd.srt { d.files[aw d.files n] with data:=d.files[aw d.files n].data++x } (by simp only[he];exact c2)
   rw[h5] at h3;simp only[he] at h3;have hK:=ba d hd.left (d.files.set (aw d.files n) { d.files[aw d.files n] with data:=d.files[aw d.files n].data++x }) 0
   have hpl:=hd.len;generalize aw d.files n=p at *;simp only[he] at hK ⊢;generalize d.files[p]=f at *;obtain⟨fn,fd,fs⟩:=f;simp only at he h3 hK hdl ⊢;subst he;have hfx:fd.length+x.length<=9223372036854775807:=by omega
   obtain⟨fx,hfe⟩:∃ fx,fd++x=fx:=⟨_,rfl⟩;rw[hfe] at h3 hK ⊢;generalize d.files.set p ⟨fn,fx,fs⟩=q at *;generalize aA d (q,0)=r at *;obtain⟨⟨f2,cp2,ar2,lf2,dn2⟩,e2⟩:=r;obtain⟨fl,cp,ar,lf,dn⟩:=d;simp only[aR,Dsk.l,Fil.enc,List.map_cons,List.map_nil] at g1 h2 h3 hK hp hpl hus hul hcp c ⊢;by_cases c3:0<cp
   ·have c5:¬ cp<(usedF fl:Nat)+(x.length:Int):=by omega
    (simp(disch:=first|decide|omega|(intros;exact aj rfl rfl)|simp only[aa]) only[aH,J9,h2,c3,hus,c5,g1,hfe,h3,hK,go_sem,seval,ai])
    try simp[trim]
   ·(simp(disch:=first|decide|omega|(intros;exact aj rfl rfl)|simp only[aa]) only[aH,J9,h2,c3,g1,hfe,h3,hK,go_sem,seval,ai])
    try simp[trim]
theorem nu (d:Dsk) (hd:d.ok) (n t:Txt):call 119 [.agg d.l,vs n,vs t] []=some (aR (aA d (jF d.files n t)),[]):=by
 apply ah MR rfl;have h1:=pu t;have h2:=dH d hd.len hd.srt n;have h4:=ba d hd.left [] 7;have h9:=ba d hd.left [] 1;unfold jF;cases c2:bA d.files n with
 | false =>
  rw[if_neg (by simp)]
  rw[gi c2] at h2;generalize aA d ([],7)=r at *;obtain⟨⟨f2,cp2,ar2,lf2,dn2⟩,e2⟩:=r;obtain⟨fl,cp,ar,lf,dn⟩:=d;simp only[aR,Dsk.l,List.map_nil] at h2 h4 ⊢;(simp(disch:=first|decide|omega|(intros;exact aj rfl rfl)|simp only[aa]) only[aH,F6,h2,h4,go_sem,seval,ai])
  try simp[trim]
 | true =>
  rw[if_pos rfl];rw[eN c2] at h2;obtain⟨hp,he⟩:=bM c2;cases c1:hI t with
  | false =>
   rw[c1] at h1;rw[if_neg (by simp)]
   have hpl:=hd.len;generalize aA d ([],1)=r at *;obtain⟨⟨f2,cp2,ar2,lf2,dn2⟩,e2⟩:=r;obtain⟨fl,cp,ar,lf,dn⟩:=d;simp only[aR,Dsk.l,List.map_nil] at h2 h9 hp hpl ⊢;generalize aw fl n=p at *;(simp(disch:=first|decide|omega|(intros;exact aj rfl rfl)|simp only[aa]) only[aH,F6,h2,h1,h9,go_sem,seval,ai])
   try simp[trim]
  | true =>
   rw[c1] at h1;rw[if_pos rfl];have g1:(d.files.map Fil.enc)[aw d.files n]?=some d.files[aw d.files n].enc:=by simp[hp]
   have h3:=jQ d.files hd.len n;rw[uM hd.srt c2] at h3;have hds:=mX hd.srt (aw d.files n);have hdl:=mU _ _ hp;have hpl:=hd.len;have hna:dK d.files (aw d.files n) t={ d.files[aw d.files n] with name:=t }:=by unfold dK;rw[zE hp]
   have h5:=jk (cR d.files (aw d.files n)) (by omega) hds (dK d.files (aw d.files n) t)
   rw[Hr hds] at h5;generalize jD (cR d.files (aw d.files n)) (dK d.files (aw d.files n) t)=q at *;have hK:=ba d hd.left q 0;rw[hna] at h5;generalize cR d.files (aw d.files n)=dq at *;generalize aw d.files n=p at *;generalize d.files[p]=f at *;obtain⟨fn,fd,fs⟩:=f;generalize aA d (q,0)=r at *;obtain⟨⟨f2,cp2,ar2,lf2,dn2⟩,e2⟩:=r;obtain⟨fl,cp,ar,lf,dn⟩:=d;simp only[aR,Dsk.l,Fil.enc,List.map_cons,List.map_nil] at g1 h2 h3 h5 hK hp hpl ⊢;(simp(disch:=first|decide|omega|(intros;exact aj rfl rfl)|simp only[aa]) only[aH,F6,h2,h1,g1,h3,h5,hK,go_sem,seval,ai])
   try simp[trim]
theorem fE (d:Dsk) (hl:d.files.length<=1000000) (hs:srt d.files) (n:Txt):call 27 [.agg d.l,vs n] []=some (.tup [(false,[.d (.s (aB d.files n).1)]),(false,[.d (.i .i64 (aB d.files n).2)])],[]):=by
 apply ah OX rfl;have h2:=dH d hl hs n;cases c2:bA d.files n with
 | false =>
  have hr:aB d.files n=([],7):=by
   unfold aB;unfold bA at c2;cases hf:d.files[aw d.files n]? with
   | none=>rfl
   | some f =>
    rw[hf] at c2;simp only[] at c2 ⊢;rw[if_neg (by simpa using c2)]
  rw[gi c2] at h2;rw[hr];obtain⟨fl,cp,ar,lf,dn⟩:=d;simp only[Dsk.l] at h2 ⊢;(simp(disch:=first|decide|omega|(intros;exact aj rfl rfl)|simp only[aa]) only[aH,Nd,h2,go_sem,seval,ai])
  try simp[trim]
 | true =>
  obtain⟨hp,he⟩:=bM c2;have hr:aB d.files n=(d.files[aw d.files n].data,0):=by
   unfold aB;rw[zE hp];simp[he]
  rw[eN c2] at h2;rw[hr];have g1:(d.files.map Fil.enc)[aw d.files n]?=some d.files[aw d.files n].enc:=by simp[hp]
  generalize aw d.files n=p at *;generalize d.files[p]=f at *;obtain⟨fn,fd,fs⟩:=f;obtain⟨fl,cp,ar,lf,dn⟩:=d;simp only[Dsk.l,Fil.enc] at g1 h2 hp hl ⊢;(simp(disch:=first|decide|omega|(intros;exact aj rfl rfl)|simp only[aa]) only[aH,Nd,h2,g1,go_sem,seval,ai])
  try simp[trim]
def fe (n k:Nat):Txt:=(List.range k).map fun j=>UInt8.ofNat (jt n (14-k+j))
theorem yL (n k:Nat) (h:k<13):fe n (k+1)=UInt8.ofNat (jt n (13-k))::fe n k:=by
 unfold fe;rw[List.range_succ_eq_map,List.map_cons,List.map_map];have e:14-(k+1)+0=13-k:=by omega
 rw[e];congr 1
 apply List.map_congr_left;intro j hj;simp only[Function.comp];have e2:14-(k+1)+(j+1)=14-k+j:=by omega
 rw[Nat.succ_eq_add_one,e2]
theorem o7 (n:Nat) (hn:n<=1099511627776):call 65 [vi n] []=some (vs (fe n 13),[]):=by
 apply ah N7 rfl;(simp(disch:=first|decide|omega|(intros;exact aj rfl rfl)|simp only[aa]) only[Nu,go_sem,seval,ai])
 obtain⟨Z,hZ⟩:∃ Z:V,Z=vs (fe n 13):=⟨_,rfl⟩;rw[<- hZ];refine aE (m:=0) (σ:=Nat) (fun i=>13-i) (fun i=>i<=13) (fun i=>[vi (n / 10 ^ i:Nat),vs (fe n i),vi i])
  (fun _=>[]) (fun _=>(Z,[])) ?_ 0 (by decide) _ _ ?_
 rotate_left
 ·have e:n / 10 ^ 0=n:=by simp
  rw[e];exact bv
 intro i hi R hR;by_cases c:i<13
 ·have ci:(i:Int)<13:=by omega
  have hK:=hR (i+1) (by omega) (by omega)
  rw[yL n i c] at hK;have hq:n / 10 ^ (i+1)=n / 10 ^ i / 10:=by rw[Nat.pow_succ,Nat.div_div_eq_div_mul]
  rw[hq] at hK;have hdg:jt n (13-i)=48+n / 10 ^ i % 10:=by
   unfold jt;have:13-(13-i)=i:=by omega
   rw[this]
  rw[hdg] at hK;have hqn:n / 10 ^ i<=n:=Nat.div_le_self _ _;have hlt:(fe n i).length=i:=by simp[fe]
  generalize fe n i=T at *;generalize n / 10 ^ i=q at *;have hm:((q:Nat):Int).tmod 10=((q % 10:Nat):Int):=by rw[Int.tmod_eq_emod_of_nonneg (by omega)];omega
  have hd:((q:Nat):Int).tdiv 10=((q / 10:Nat):Int):=by rw[Int.tdiv_eq_ediv_of_nonneg (by omega)];omega
  have hw:IntKind.u8.wrap (48+((q % 10:Nat):Int))=((48+q % 10:Nat):Int):=by rw[pV (by omega)];omega
  (simp(disch:=first|decide|omega|(intros;exact aj rfl rfl)|simp only[aa]) only[C6,ci,hm,hd,hw,dL,hlt,go_sem,seval,ai])
  exact hK _ _ bv
 ·have hie:i=13:=by omega
  subst hie;(simp(disch:=first|decide|omega|(intros;exact aj rfl rfl)|simp only[aa]) only[C6,go_sem,seval,ai])
  try rw[hZ]
  try simp[trim]
theorem dk {n:Int} (h:0<=n∧n<=1099511627776):call 33 [vi n] []=some (vs (fileN n),[]):=by
 have h1:=o7 n.toNat (by omega)
 have e:((n.toNat:Nat):Int)=n:=by omega
 rw[e] at h1;have e2:fileN n=115::fe n.toNat 13:=by
  unfold fileN nz fe;congr 1
 have hl:(fe n.toNat 13).length=13:=by simp[fe]
 rw[e2];generalize fe n.toNat 13=T at *;have c1:¬ n<0:=by omega
 have c2:¬ (1099511627776:Int)<n:=by omega
 apply ah Oq rfl;(simp(disch:=first|decide|omega|(intros;exact aj rfl rfl)|simp only[aa]) only[Ni,c1,c2,h1,hl,go_sem,seval,ai])
 try simp[trim]
theorem ox (s:Sto) (hl:s.segs.length<=1000000):call 79 [.agg s.l] []=some (.agg s.man.l,[]):=by
 apply ah ON rfl;obtain⟨⟨fl,cp,ar,lf,dn⟩,ver,segs,next,sure,size,sum⟩:=s;simp only at hl;unfold Sto.man;(simp(disch:=first|decide|omega|(intros;exact aj rfl rfl)|simp only[aa]) only[NP,Sto.l,Dsk.l,Man.l,go_sem,seval,ai,bg,A.kind,A.xs,aG,A.isN])
 obtain⟨Z,hZ⟩:∃ Z:V,Z=V.agg [zI ver,.d (.l ((segs.map Seg.base).map eI)),zI size,zW sum]:=⟨_,rfl⟩;rw[<- hZ];refine aE (m:=0) (σ:=Option Nat) (fun t=>match t with|none=>segs.length+1|some i=>segs.length-i) (fun t=>match t with|none=>True|some i=>i+1<=segs.length) (fun t=>match t with|none=>[V.one (.p 0 0),V.one (.p 1 0),V.one (.p 2 0),vi 0]|some i=>[V.one (.p 0 0),V.one (.p 1 0),V.one (.p 2 0),vi ((i+1:Nat):Int)])
  (fun t=>match t with|none=>[.cells [.d (.l (fl.map Fil.enc)),zI cp,zB ar,zI lf,zB dn,zI ver,.d (.l (segs.map Seg.enc)),zI next,zI sure,zI size,zW sum],.cells [zI 0,.ns,zI 0,zW 0],.cells [zI ver,.ns,zI size,zW sum]]|some i=>[.cells [.d (.l (fl.map Fil.enc)),zI cp,zB ar,zI lf,zB dn,zI ver,.d (.l (segs.map Seg.enc)),zI next,zI sure,zI size,zW sum],.cells [zI 0,.ns,zI 0,zW 0],.cells [zI ver,.sl 3 1 0 (i+1),zI size,zW sum],.arr 1 ((segs.take (i+1)).map fun g=>eI g.base) 0]) (fun _=>(Z,[])) ?_ none trivial _ _ ?_
 rotate_left
 ·exact bv
 intro t hi R hR;cases t with
 | none =>
  by_cases c:0<segs.length
  ·have g1:(segs.map Seg.enc)[0]?=some segs[0].enc:=by simp[c]
   have ci:(0:Int)<(segs.length:Int):=by omega
   have hK:=hR (some 0) (by simp only[];omega) (by simp only[];omega)
   have e1:((segs.take (0+1)).map fun g=>eI g.base)=[eI segs[0].base]:=by cases segs with|nil=>cases c|cons a r=>rfl
   clear hR;simp only[] at hK ⊢;rw[e1] at hK;generalize segs[0]=g at *;obtain⟨gb,gn,gz⟩:=g;simp only[Seg.enc,eI] at g1 hK;(simp(disch:=first|decide|omega|(intros;exact aj rfl rfl)|simp only[aa]) only[wN,ci,g1,↓pv,Cq,go_sem,seval,ai,bg,A.kind,A.xs,aG,A.isN])
   exact hK _ _ bv
  ·have e:segs=[]:=List.length_eq_zero_iff.1 (by omega)
   subst e;clear hR;simp only[];(simp(disch:=first|decide|omega|(intros;exact aj rfl rfl)|simp only[aa]) only[wN,go_sem,seval,ai,bg,A.kind,A.xs,aG,A.isN])
   try rw[hZ]
   try simp[trim]
 | some i =>
  have hln:((segs.take (i+1)).map fun g=>eI g.base).length=i+1:=by simp;omega
  by_cases c:i+1<segs.length
  ·have g1:(segs.map Seg.enc)[i+1]?=some segs[i+1].enc:=by simp[c]
   have hK:=hR (some (i+1)) (by simp only[];omega) (by simp only[];omega)
   clear hR;simp only[] at hK ⊢;have e1:((segs.take (i+1+1)).map fun g=>eI g.base)=((segs.take (i+1)).map fun g=>eI g.base)++[eI segs[i+1].base]:=by
    rw[zO c,List.map_append];rfl
   rw[e1] at hK;generalize ((segs.take (i+1)).map fun g=>eI g.base)=Q at *
   generalize segs[i+1]=g at *;obtain⟨gb,gn,gz⟩:=g;have ci:((i+1:Nat):Int)<(segs.length:Int):=by omega
   simp only[Seg.enc,eI] at g1 hK;(simp(disch:=first|decide|omega|(intros;exact aj rfl rfl)|simp only[aa]) only[wN,ci,g1,hln,↓n5,yd,go_sem,seval,ai,bg,A.kind,A.xs,aG,A.isN])
   exact hK _ _ bv
  ·have ci:¬ ((i+1:Nat):Int)<(segs.length:Int):=by omega
   have e:segs.take (i+1)=segs:=zL (by omega)
   clear hR;simp only[];rw[e] at hln ⊢;have e3:(segs.map Seg.base).map eI=segs.map fun g=>eI g.base:=by simp
   rw[e3] at hZ;generalize (segs.map fun g=>eI g.base)=Q at *
   have e4:Q.take (i+1)=Q:=zL (by omega)
   (simp(disch:=first|decide|omega|(intros;exact aj rfl rfl)|simp only[aa]) only[wN,ci,hln,e4,go_sem,seval,ai,bg,A.kind,A.xs,aG,A.isN])
   rw[hZ];try simp[zR]
def kO (segs:List Int) (i:Nat):Int:=match i with|0 => -1|i+1=>segs.getD i 0
theorem qg (m:Man) (hl:m.segs.length<=1000000):call 112 [.agg m.l] []=some (vb (manB m),[]):=by
 obtain⟨ver,segs,size,sum⟩:=m;unfold manB Man.l;simp only at hl ⊢;apply ah L5 rfl;by_cases c1:1<=ver
 ·by_cases c2:ver<=1099511627776
  ·by_cases c3:1<=segs.length
   ·by_cases c4:segs.length<=64
    ·rw[decide_eq_true ⟨c1,c2,c3,c4⟩,Bool.true_and];obtain⟨Z,hZ⟩:∃ Z:V × Hp,Z=(vb (mM (-1) segs && (if segs.head?=some 0 then decide (size=0∧sum=0) else decide (0<size∧size<=65536))),[]):=⟨_,rfl⟩
     rw[<- hZ];have d1:¬ ver<1:=by omega
     have d2:¬ (1099511627776:Int)<ver:=by omega
     have d3:¬ (segs.length:Int)<1:=by omega
     have d4:¬ (64:Int)<segs.length:=by omega
     (simp(disch:=first|decide|omega|(intros;exact aj rfl rfl)|simp only[aa]) only[Br,d1,d2,d3,d4,go_sem,seval,ai])
     refine aE (m:=0) (σ:=Nat) (fun i=>segs.length-i) (fun i=>i<=segs.length∧mM (-1) segs=mM (kO segs i) (segs.drop i)∧(0<i->0<=kO segs i)) (fun i=>[V.one (.p 0 0),vi i])
      (fun _=>[.cells [zI ver,.d (.l (segs.map eI)),zI size,zW sum]]) (fun _=>Z) ?_ 0 ⟨zP _,rfl,by omega⟩ _ _ ?_
     rotate_left
     ·exact bv
     rintro i ⟨hi,hinc,hpv⟩ R hR;by_cases c5:i<segs.length
     ·have c5i:(i:Int)<(segs.length:Int):=by omega
      have g1:(segs.map eI)[i]?=some (eI segs[i]):=by simp[c5]
      rw[sW _ c5] at hinc;have hpn:kO segs (i+1)=segs[i]:=by simp[kO,c5]
      by_cases c6:segs[i]<0
      ·have hd:decide (kO segs i<segs[i]∧segs[i]<=1099511627776)=false:=zF (by
        rintro⟨h1,h2⟩;cases i with
        | zero=>simp only[kO] at h1;omega
        | succ i=>have:=hpv (by omega);omega)
       rw[hd,Bool.false_and] at hinc;rw[hinc,Bool.false_and] at hZ;(simp(disch:=first|decide|omega|(intros;exact aj rfl rfl)|simp only[aa]) only[gu,c5i,g1,cE,dX,c6,go_sem,seval,ai])
       rw[hZ]
      ·by_cases c7:(1099511627776:Int)<segs[i]
       ·have hd:decide (kO segs i<segs[i]∧segs[i]<=1099511627776)=false:=zF (by omega)
        rw[hd,Bool.false_and] at hinc;rw[hinc,Bool.false_and] at hZ;(simp(disch:=first|decide|omega|(intros;exact aj rfl rfl)|simp only[aa]) only[gu,c5i,g1,cE,dX,c6,c7,go_sem,seval,ai])
        rw[hZ]
       ·cases i with
        | zero =>
         have hd:decide (kO segs 0<segs[0]∧segs[0]<=1099511627776)=true:=zT (by simp only[kO];omega)
         rw[hd,Bool.true_and] at hinc;(simp(disch:=first|decide|omega|(intros;exact aj rfl rfl)|simp only[aa]) only[gu,c5i,g1,cE,dX,c6,c7,go_sem,seval,ai])
         exact hR (0+1) (by omega) ⟨by omega,by rw[hpn];exact hinc,fun _=>by rw[hpn];omega⟩ _ _ bv
        | succ i =>
         have hpi:kO segs (i+1)=segs[i]:=by simp[kO,show i<segs.length by omega]
         rw[hpi] at hinc;have g2:(segs.map eI)[i]?=some (eI segs[i]):=by simp[show i<segs.length by omega]
         have hsub:((i+1:Nat):Int)-1=(i:Int):=by omega
         have c0:(0:Int)<((i+1:Nat):Int):=by omega
         by_cases c8:segs[i+1]<=segs[i]
         ·have hd:decide (segs[i]<segs[i+1]∧segs[i+1]<=1099511627776)=false:=zF (by omega)
          rw[hd,Bool.false_and] at hinc;rw[hinc,Bool.false_and] at hZ;(simp(disch:=first|decide|omega|(intros;exact aj rfl rfl)|simp only[aa]) only[gu,c5i,g1,g2,cE,dX,c6,c7,c0,hsub,c8,go_sem,seval,ai])
          rw[hZ]
         ·have hd:decide (segs[i]<segs[i+1]∧segs[i+1]<=1099511627776)=true:=zT (by omega)
          rw[hd,Bool.true_and] at hinc;(simp(disch:=first|decide|omega|(intros;exact aj rfl rfl)|simp only[aa]) only[gu,c5i,g1,g2,cE,dX,c6,c7,c0,hsub,c8,go_sem,seval,ai])
          exact hR (i+1+1) (by omega) ⟨by omega,by rw[hpn];exact hinc,fun _=>by rw[hpn];omega⟩ _ _ bv
     ·rw[List.drop_of_length_le (by omega)] at hinc
      have hinc2:mM (-1) segs=true:=hinc;rw[hinc2,Bool.true_and] at hZ;have c5i:¬ (i:Int)<(segs.length:Int):=by omega
      have g0:(segs.map eI)[0]?=some (eI segs[0]):=by rw[zG,zE c3];rfl
      have hh:segs.head?=some segs[0]:=by rw[List.head?_eq_getElem?];simp
      rw[hh] at hZ;by_cases z:segs[0]=0
      ·rw[if_pos (by rw[z])] at hZ
       by_cases z2:size=0
       ·by_cases z3:sum=0
        ·(simp(disch:=first|decide|omega|(intros;exact aj rfl rfl)|simp only[aa]) only[gu,c5i,g0,cE,dX,z,z2,z3,go_sem,seval,ai])
         rw[hZ];simp[z2,z3]
        ·(simp(disch:=first|decide|omega|(intros;exact aj rfl rfl)|simp only[aa]) only[gu,c5i,g0,cE,dX,z,z2,z3,go_sem,seval,ai])
         rw[hZ];simp[z2,z3]
       ·(simp(disch:=first|decide|omega|(intros;exact aj rfl rfl)|simp only[aa]) only[gu,c5i,g0,cE,dX,z,z2,go_sem,seval,ai])
        rw[hZ];simp[z2]
      ·rw[if_neg (by simpa using z)] at hZ
       by_cases z2:1<=size
       ·by_cases z3:size<=65536
        ·(simp(disch:=first|decide|omega|(intros;exact aj rfl rfl)|simp only[aa]) only[gu,c5i,g0,cE,dX,z,z2,z3,go_sem,seval,ai])
         rw[hZ];simp[z3];omega
        ·(simp(disch:=first|decide|omega|(intros;exact aj rfl rfl)|simp only[aa]) only[gu,c5i,g0,cE,dX,z,z2,z3,go_sem,seval,ai])
         rw[hZ];simp[z3]
       ·(simp(disch:=first|decide|omega|(intros;exact aj rfl rfl)|simp only[aa]) only[gu,c5i,g0,cE,dX,z,z2,go_sem,seval,ai])
        rw[hZ];simp;omega
    ·rw[zF (fun h=>c4 h.2.2.2),Bool.false_and]
     have d1:¬ ver<1:=by omega
     have d2:¬ (1099511627776:Int)<ver:=by omega
     have d3:¬ (segs.length:Int)<1:=by omega
     have d4:(64:Int)<segs.length:=by omega
     (simp(disch:=first|decide|omega|(intros;exact aj rfl rfl)|simp only[aa]) only[Br,d1,d2,d3,d4,go_sem,seval,ai])
     try simp[trim]
   ·rw[zF (fun h=>c3 h.2.2.1),Bool.false_and]
    have d1:¬ ver<1:=by omega
    have d2:¬ (1099511627776:Int)<ver:=by omega
    have d3:(segs.length:Int)<1:=by omega
    (simp(disch:=first|decide|omega|(intros;exact aj rfl rfl)|simp only[aa]) only[Br,d1,d2,d3,go_sem,seval,ai])
    try simp[trim]
  ·rw[zF (fun h=>c2 h.2.1),Bool.false_and]
   have d1:¬ ver<1:=by omega
   have d2:(1099511627776:Int)<ver:=by omega
   (simp(disch:=first|decide|omega|(intros;exact aj rfl rfl)|simp only[aa]) only[Br,d1,d2,go_sem,seval,ai])
   try simp[trim]
 ·rw[zF (fun h=>c1 h.1),Bool.false_and]
  have d1:ver<1:=by omega
  (simp(disch:=first|decide|omega|(intros;exact aj rfl rfl)|simp only[aa]) only[Br,d1,go_sem,seval,ai])
  try simp[trim]
theorem gM (m:Man) (hm:m.ok):call 64 [.agg m.l] []=some (.tup [(false,[.d (.s (aX m).1)]),(false,[.d (.i .i64 (aX m).2)])],[]):=by
 have hr:=qg m hm.len;unfold aX;cases c:manB m with
 | false =>
  rw[c] at hr;apply ah Nr rfl;simp only[Man.l] at hr;(simp(disch:=first|decide|omega|(intros;exact aj rfl rfl)|simp only[aa]) only[MS,Man.l,hr,go_sem,seval,ai])
  try simp[trim]
 | true =>
  rw[c] at hr;have hb:=ja c;obtain⟨h1,h2,h3,h4⟩:=d5 c;have hmem:=db _ _ h3;have hsum:=hm.sum;have hf:call 113 [.one (zW m.sum)] []=some (vs (co (eY m)),[]):=by
   have:=nD (eY m);have e:(((eY m).toNat:Nat):Int)=m.sum:=by unfold eY;simp;omega
   rw[e] at this;exact this
  have hp:=fL (aU m) (by omega)
  unfold vv at hp;rw[if_pos ⟨hb.1,by omega⟩] at hp
  have q1:=lB (n:=m.ver) (by omega) (by omega)
  have q2:=lB (n:=(m.segs.length:Int)) (by omega) (by omega)
  rw[Int.toNat_natCast] at q2;have q3:=lB (n:=m.size) (by omega) (by omega)
  have l1:=(tX (n:=m.ver.toNat) (by omega)).2
  have l2:=(tX (n:=m.segs.length) (by omega)).2
  have l3:=(tX (n:=m.size.toNat) (by omega)).2
  unfold bu;have hbd:aU m=((au m.ver.toNat++au m.segs.length)++aN m.segs++au m.size.toNat)++co (eY m):=by
   unfold aU;simp[aN,List.append_assoc]
  rw[hbd] at hp hb ⊢;have h4l:=cH (eY m);generalize co (eY m)=F4 at *;obtain⟨ver,segs,size,sum⟩:=m;simp only[Man.l] at *;apply ah Nr rfl;obtain⟨W,hW⟩:∃ W:Txt,W=bN (((au ver.toNat++au segs.length)++aN segs++au size.toNat)++F4):=⟨_,rfl⟩;rw[<- hW] at hp ⊢;have l12:(au ver.toNat).length+(au segs.length).length<=9223372036854775807:=by omega
  (simp(disch:=first|decide|omega|(intros;exact aj rfl rfl)|simp only[aa]) only[MS,hr,q1,q2,l12,go_sem,seval,ai])
  refine aE (m:=0) (σ:=Nat) (fun i=>segs.length-i) (fun i=>i<=segs.length) (fun i=>[V.one (.p 0 0),vs ((au ver.toNat++au segs.length)++aN (segs.take i)),vi i])
   (fun _=>[.cells [zI ver,.d (.l (segs.map eI)),zI size,zW sum]]) (fun _=>(V.tup [(false,[zS W]),(false,[zI 0])],[])) ?_ 0 (zP _) _ _ ?_
  rotate_left
  ·have e:(au ver.toNat++au segs.length)++aN (segs.take 0)=au ver.toNat++au segs.length:=by simp[aN]
   rw[e];exact bv
  intro i hi R hR;have hln:=lw (segs.take i) (fun n hn=>by have:=hmem n (zZ hn);omega)
  have hti:(segs.take i).length=i:=by simp;omega
  rw[hti] at hln;by_cases c5:i<segs.length
  ·have g1:(segs.map eI)[i]?=some (eI segs[i]):=by simp[c5]
   have hmi:=hmem _ (zN c5);have q4:=lB (n:=segs[i]) (by omega) (by omega)
   have l4:=(tX (n:=segs[i].toNat) (by omega)).2
   have hR':=hR (i+1) (by omega) (by omega)
   have e1:aN (segs.take (i+1))=aN (segs.take i)++au segs[i].toNat:=by
    rw[zO c5,gQ];simp[aN]
   rw[e1,<- List.append_assoc] at hR';obtain⟨P,hP⟩:∃ P:Txt,P=(au ver.toNat++au segs.length)++aN (segs.take i):=⟨_,rfl⟩;have hPl:P.length+(au segs[i].toNat).length<=9223372036854775807:=by rw[hP,zA,zA];omega
   rw[<- hP] at hR' ⊢;(simp(disch:=first|decide|omega|(intros;exact aj rfl rfl)|simp only[aa]) only[D3,g1,cE,dX,q4,hPl,go_sem,seval,ai])
   exact hR' _ _ bv
  ·have hin:i=segs.length:=by omega
   subst hin;rw[List.take_length] at hln ⊢;obtain⟨P,hP⟩:∃ P:Txt,P=(au ver.toNat++au segs.length)++aN segs:=⟨_,rfl⟩;have hPl:P.length+(au size.toNat).length<=9223372036854775807:=by rw[hP,zA,zA];omega
   have hPl2:(P++au size.toNat).length+F4.length<=9223372036854775807:=by rw[hP,zA,zA,zA];omega
   rw[<- hP] at hp ⊢;obtain⟨P2,hP2⟩:∃ P2:Txt,P2=P++au size.toNat:=⟨_,rfl⟩;rw[<- hP2] at hp hPl2;(simp(disch:=first|decide|omega|(intros;exact aj rfl rfl)|simp only[aa]) only[D3,q3,hPl,<- hP2,hPl2,hf,hp,go_sem,seval,ai])
   try simp[trim]
end Go.Proofs.YtghfhomfppbooaaGreat
