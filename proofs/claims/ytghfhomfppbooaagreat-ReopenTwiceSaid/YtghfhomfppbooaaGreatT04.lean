import Derived.Test.YtghfhomfppbooaaGreatT03
import Derived.Test.YtghfhomfppbooaaGreatT02
set_option linter.unusedSimpArgs false
set_option linter.unusedVariables false
namespace Go.Proofs.YtghfhomfppbooaaGreat
open Go.Vi
theorem wz (s:Dsk × Int) (hd:s.1.ok) (n:Txt):call 97 [.one (.p 0 0),vs n] [eQ s]=some (.tup [],[eQ (cL n s)]):=by
 apply ai QU rfl;obtain⟨d,e⟩:=s;unfold cL;simp only at hd ⊢;by_cases h9:e=9
 ·subst h9;have h:az call 94 [.one (.p 0 0),vs n] [eQ (d,0)]=some (.tup [],[eQ (cN n (d,0))]) :=
   aU (ids:=[0]) rfl rfl rfl (oW (d,0) hd n) rfl
  generalize cN n (d,0)=r at *;obtain⟨⟨f2,cp2,ar2,lf2,dn2⟩,e2⟩:=r;obtain⟨fl,cp,ar,lf,dn⟩:=d;simp only[eQ,Dsk.l,List.cons_append,List.nil_append] at h;by_cases h0:e2=0
  ·subst h0;(simp(disch:=first|decide|omega|(intros;exact rfl)|simp only[aa]) only[aS,Nz,eQ,Dsk.l,↓h,go_sem,seval,aq])
   simp[trim,V.refs,L.refs,Box.refs]
  ·(simp(disch:=first|decide|omega|(intros;exact rfl)|simp only[aa]) only[aS,Nz,eQ,Dsk.l,↓h,h0,go_sem,seval,aq])
   simp[trim,V.refs,L.refs,Box.refs,h0]
 ·obtain⟨fl,cp,ar,lf,dn⟩:=d;(simp(disch:=first|decide|omega|(intros;exact rfl)|simp only[aa]) only[aS,Nz,eQ,Dsk.l,h9,go_sem,seval,aq])
  simp[trim,V.refs,L.refs,Box.refs,h9]
def bR (m:Man) (s:Dsk × Int):Dsk × Int :=
 let s1:=if s.2=0 then(s.1,(bK m).2) else s
 let s2:=if(aC s1.1.files [110]).2=0 then cN [110] s1 else s1
 let s3:=bQ [110] s2
 if s3.2≠0 then s3 else tZ [110] [109] (ee [110] (cL [110] (j5 [110] (bK m).1 s3)))
theorem nM (m:Man):(bK m).1.length<=800:=by
 unfold bK;split
 ·rename_i h;have:=jz h;unfold bC;have h9:=gP (n:=(bB m).length) (by omega)
  show(aK (bB m)).length<=800;rw[jo];omega
 ·simp
theorem kl {k u:Nat} {s:Dsk × Int} (h:okN k u s.1) (m:Man):okN (k+1) (u+800) (bR m s).1:=by
 unfold bR;have h1:okN k u (if s.2=0 then(s.1,(bK m).2) else s).1:=by split <;> exact h
 generalize (if s.2=0 then(s.1,(bK m).2) else s)=s1 at *
 have h2:okN k u (if(aC s1.1.files [110]).2=0 then cN [110] s1 else s1).1:=by
  split
  ·exact ft h1 _
  ·exact h1
 simp only[];generalize (if(aC s1.1.files [110]).2=0 then cN [110] s1 else s1)=s2 at *
 have h3:=fN h2 [110];split
 ·exact h3.up (Nat.le_refl _) (by omega)
 ·exact J7 (lU (lT ((lW h3 [110] (bK m).1).up (Nat.le_refl _) (by have:=nM m;omega)) _) _) _ _
theorem DG (d:Dsk) (e:Int) (te:Int) (tx:Txt) {k u:Nat} (hd:okN k u d) (hk:k<=900000) (hu:u<=900000000000) (htx:tx.length<=800) (ver size sum:Int) (segs:List Int)
  (hp:call 93 [.agg [.d (.i .i64 ver),.d (.l (segs.map eI)),.d (.i .i64 size),.d (.i .u32 sum)]] []=some (.tup [(false,[.d (.s tx)]),(false,[.d (.i .i64 te)])],[]))
  (s1:Dsk × Int) (hs1:s1=(if e=0 then(d,te) else(d,e))) (s2:Dsk × Int) (hs2:s2=(if(aC s1.1.files [110]).2=0 then cN [110] s1 else s1)) :
  call 53 [.one (.p 0 0),.agg [.d (.i .i64 ver),.d (.l (segs.map eI)),.d (.i .i64 size),.d (.i .u32 sum)]] [eQ (d,e)] =
   some (.tup [],[eQ (if(bQ [110] s2).2≠0 then bQ [110] s2 else tZ [110] [109] (ee [110] (cL [110] (j5 [110] tx (bQ [110] s2)))))]):=by
 have k1:okN k u s1.1:=by rw[hs1];split <;> exact hd
 have k2:okN k u s2.1:=by
  rw[hs2];split
  ·exact ft k1 _
  ·exact k1
 have k3:=fN k2 [110];obtain⟨s3,hs3⟩:∃ s3,s3=bQ [110] s2:=⟨_,rfl⟩;have k4:=lW k3 [110] tx;rw[<- hs3] at k3 k4 ⊢;obtain⟨s4,hs4⟩:∃ s4,s4=j5 [110] tx s3:=⟨_,rfl⟩;rw[<- hs4] at k4 ⊢;have k5:=lT k4 [110];obtain⟨s5,hs5⟩:∃ s5,s5=cL [110] s4:=⟨_,rfl⟩;rw[<- hs5] at k5 ⊢;have k6:=lU k5 [110];obtain⟨s6,hs6⟩:∃ s6,s6=ee [110] s5:=⟨_,rfl⟩;rw[<- hs6] at k6 ⊢;obtain⟨s7,hs7⟩:∃ s7,s7=tZ [110] [109] s6:=⟨_,rfl⟩;rw[<- hs7];have hr:=iN s1.1 (Nat.le_trans k1.len (by omega)) k1.srt [110]
 have q1:∀ M T:Box,az call 94 [.one (.p 0 0),vs [110]] [eQ s1,M,T]=some (.tup [],[eQ (cN [110] s1),M,T]):=fun M T=>aU (ids:=[0]) rfl rfl rfl (oW s1 (k1.ok (by omega) (by omega)) _) rfl
 have q2:∀ M T:Box,az call 51 [.one (.p 0 0),vs [110]] [eQ s2,M,T]=some (.tup [],[eQ s3,M,T]):=fun M T=>by rw[hs3];exact aU (ids:=[0]) rfl rfl rfl (oh s2 (k2.ok (by omega) (by omega)) _) rfl
 have q3:∀ M:Box,az call 89 [.one (.p 0 0),.one (.f 95 [2])] [eQ s3,M,.cells [.d (.s tx)]]=some (.tup [],[eQ s4,M,.cells [.d (.s tx)]]):=fun M=>by
  rw[hs4];exact aU (ids:=[0,2]) rfl rfl rfl (ND s3 _ tx _ fun _=>KF s3.1 (k3.ok (by omega) (by omega)) tx (by omega)) rfl
 have q4:∀ M T:Box,az call 97 [.one (.p 0 0),vs [110]] [eQ s4,M,T]=some (.tup [],[eQ s5,M,T]):=fun M T=>by rw[hs5];exact aU (ids:=[0]) rfl rfl rfl (wz s4 (k4.ok (by omega) (by omega)) _) rfl
 have q5:∀ M T:Box,az call 98 [.one (.p 0 0),vs [110]] [eQ s5,M,T]=some (.tup [],[eQ s6,M,T]):=fun M T=>by rw[hs6];exact aU (ids:=[0]) rfl rfl rfl (zP s5 (k5.ok (by omega) (by omega)) _) rfl
 have q6:∀ M T:Box,az call 89 [.one (.p 0 0),.one (.f 99 [])] [eQ s6,M,T]=some (.tup [],[eQ s7,M,T]):=fun M T=>by
  rw[hs7];exact aU (ids:=[0]) rfl rfl rfl (QQ s6 _ _ fun _=>L4 s6.1 (k6.ok (by omega) (by omega))) rfl
 clear hs3 hs4 hs5 hs6 hs7 k2 k3 k4 k5 k6;obtain⟨d3,e3⟩:=s3;apply ai P3 rfl;by_cases he:e=0
 ·rw[if_pos he] at hs1;subst hs1;subst he;by_cases hrd:(aC d.files [110]).2=0
  ·simp only[] at hs2 hr;rw[if_pos hrd] at hs2;rw[<- hs2] at q1;rw[hrd] at hr;simp only[eQ,Dsk.l,List.cons_append,List.nil_append] at hr q1 q2 q3 q4 q5 q6;by_cases h3:e3=0
   ·subst h3;(simp(disch:=first|decide|omega|(intros;exact rfl)|simp only[aa]) only[aS,Iy,eQ,Dsk.l,hp,hr,↓q1,↓q2,↓q3,↓q4,↓q5,↓q6,go_sem,seval,aq])
    try simp[trim,V.refs,L.refs,Box.refs,eQ,Dsk.l]
   ·(simp(disch:=first|decide|omega|(intros;exact rfl)|simp only[aa]) only[aS,Iy,eQ,Dsk.l,hp,hr,↓q1,↓q2,↓q3,↓q4,↓q5,↓q6,h3,go_sem,seval,aq])
    try simp[trim,V.refs,L.refs,Box.refs,eQ,Dsk.l,h3]
  ·simp only[] at hs2 hr;rw[if_neg hrd] at hs2;subst hs2;simp only[eQ,Dsk.l,List.cons_append,List.nil_append] at hr q1 q2 q3 q4 q5 q6;by_cases h3:e3=0
   ·subst h3;(simp(disch:=first|decide|omega|(intros;exact rfl)|simp only[aa]) only[aS,Iy,eQ,Dsk.l,hp,hr,hrd,↓q2,↓q3,↓q4,↓q5,↓q6,go_sem,seval,aq])
    try simp[trim,V.refs,L.refs,Box.refs,eQ,Dsk.l]
   ·(simp(disch:=first|decide|omega|(intros;exact rfl)|simp only[aa]) only[aS,Iy,eQ,Dsk.l,hp,hr,hrd,↓q2,↓q3,↓q4,↓q5,↓q6,h3,go_sem,seval,aq])
    try simp[trim,V.refs,L.refs,Box.refs,eQ,Dsk.l,h3]
 ·rw[if_neg he] at hs1;subst hs1;by_cases hrd:(aC d.files [110]).2=0
  ·simp only[] at hs2 hr;rw[if_pos hrd] at hs2;rw[<- hs2] at q1;rw[hrd] at hr;simp only[eQ,Dsk.l,List.cons_append,List.nil_append] at hr q1 q2 q3 q4 q5 q6;by_cases h3:e3=0
   ·subst h3;(simp(disch:=first|decide|omega|(intros;exact rfl)|simp only[aa]) only[aS,Iy,eQ,Dsk.l,hp,hr,↓q1,↓q2,↓q3,↓q4,↓q5,↓q6,go_sem,seval,aq])
    try simp[trim,V.refs,L.refs,Box.refs,eQ,Dsk.l]
   ·(simp(disch:=first|decide|omega|(intros;exact rfl)|simp only[aa]) only[aS,Iy,eQ,Dsk.l,hp,hr,↓q1,↓q2,↓q3,↓q4,↓q5,↓q6,h3,go_sem,seval,aq])
    try simp[trim,V.refs,L.refs,Box.refs,eQ,Dsk.l,h3]
  ·simp only[] at hs2 hr;rw[if_neg hrd] at hs2;subst hs2;simp only[eQ,Dsk.l,List.cons_append,List.nil_append] at hr q1 q2 q3 q4 q5 q6;by_cases h3:e3=0
   ·subst h3;(simp(disch:=first|decide|omega|(intros;exact rfl)|simp only[aa]) only[aS,Iy,eQ,Dsk.l,hp,hr,hrd,↓q2,↓q3,↓q4,↓q5,↓q6,go_sem,seval,aq])
    try simp[trim,V.refs,L.refs,Box.refs,eQ,Dsk.l]
   ·(simp(disch:=first|decide|omega|(intros;exact rfl)|simp only[aa]) only[aS,Iy,eQ,Dsk.l,hp,hr,hrd,↓q2,↓q3,↓q4,↓q5,↓q6,h3,go_sem,seval,aq])
    try simp[trim,V.refs,L.refs,Box.refs,eQ,Dsk.l,h3]
theorem Ai (s:Dsk × Int) {k u:Nat} (hd:okN k u s.1) (hk:k<=900000) (hu:u<=900000000000) (m:Man) (hm:m.ok):call 53 [.one (.p 0 0),.agg m.l] [eQ s]=some (.tup [],[eQ (bR m s)]):=by
 have hp:=xc m hm;have hpl:=nM m;obtain⟨d,e⟩:=s;have h:=DG d e (bK m).2 (bK m).1 hd hk hu hpl m.ver m.size m.sum m.segs hp _ rfl _ rfl;exact h
structure Seg where
 base:Int
 n:Int
 size:Int
 deriving DecidableEq
def Seg.enc (e:Seg):List D:=[.i .i64 e.base,.i .i64 e.n,.i .i64 e.size]
theorem Seg.len (e:Seg):e.enc.length=3:=Eq.trans rfl rfl
theorem Seg.tk (e:Seg):e.enc.take 3=e.enc:=Eq.trans rfl rfl
theorem Seg.tkL (e:Seg):(e.enc.map L.d).take 3=e.enc.map L.d:=Eq.trans rfl rfl
theorem Seg.dat (e:Seg):eb (e.enc.map L.d)=some (e.enc.map L.d):=Eq.trans rfl rfl
theorem Seg.rfs (e:Seg):(e.enc.map L.d).flatMap L.refs=[]:=Eq.trans rfl rfl
theorem Seg.rn (e:Seg) (g:Nat->Option Nat):(e.enc.map L.d).map (L.ren g)=e.enc.map L.d:=Eq.trans rfl rfl
theorem Seg.lenL (e:Seg):(e.enc.map L.d).length=3:=Eq.trans rfl rfl
theorem Seg.at0 (e:Seg):e.enc[0]?=some (.i .i64 e.base):=Eq.trans rfl rfl
theorem Seg.fd0 (e:Seg):(e.enc.map L.d)[0]?=some (.d (.i .i64 e.base)):=Eq.trans rfl rfl
theorem Seg.at1 (e:Seg):(e.enc.drop 1)[0]?=some (.i .i64 e.n):=Eq.trans rfl rfl
theorem Seg.fd1 (e:Seg):(e.enc.map L.d)[1]?=some (.d (.i .i64 e.n)):=Eq.trans rfl rfl
theorem Seg.at2 (e:Seg):(e.enc.drop 2)[0]?=some (.i .i64 e.size):=Eq.trans rfl rfl
theorem Seg.fd2 (e:Seg):(e.enc.map L.d)[2]?=some (.d (.i .i64 e.size)):=Eq.trans rfl rfl
theorem Seg.up1 (e:Seg) (x:Int):e.enc.take 1++[.i .i64 x]++e.enc.drop 2=({ e with n:=x }:Seg).enc:=Eq.trans rfl rfl
theorem Seg.up2 (e:Seg) (x:Int):e.enc.take 2++[.i .i64 x]++e.enc.drop 3=({ e with size:=x }:Seg).enc:=Eq.trans rfl rfl
def Seg.ok (e:Seg):Prop:=(-9223372036854775808<=e.base∧e.base<9223372036854775808)∧(-9223372036854775808<=e.n∧e.n<9223372036854775808)∧(-9223372036854775808<=e.size∧e.size<9223372036854775808)
def Seg.ty:List Ty:=[.i .i64,.i .i64,.i .i64]
theorem Seg.eqs (a b:Seg):fT [0,0,0] (a.enc.map L.d) (b.enc.map L.d)=some (decide (a=b)):=by
 cases a;cases b;simp only[Seg.enc,List.map_cons,List.map_nil,fT,oT,if_true,Seg.mk.injEq];congr 1
 rw[Bool.eq_iff_iff];simp only[Bool.and_eq_true,beq_iff_eq,decide_eq_true_eq,and_true]
theorem Seg.of (r:List D) (h:cC Seg.ty r):∃ e:Seg,r=e.enc∧e.ok:=by
 simp only[Seg.ty,cC,Ee] at h;obtain⟨_,_,rfl,⟨x0,rfl,h0,g0⟩,⟨_,_,rfl,⟨x1,rfl,h1,g1⟩,⟨_,_,rfl,⟨x2,rfl,h2,g2⟩,rfl⟩⟩⟩:=h;refine⟨⟨x0,x1,x2⟩,rfl,?_⟩;exact⟨⟨Int.le_trans (by decide) h0,Int.lt_of_le_of_lt g0 (by decide)⟩,⟨Int.le_trans (by decide) h1,Int.lt_of_le_of_lt g1 (by decide)⟩,⟨Int.le_trans (by decide) h2,Int.lt_of_le_of_lt g2 (by decide)⟩⟩
structure Sto where
 disk:Dsk
 ver:Int
 segs:List Seg
 next:Int
 sure:Int
 size:Int
 sum:Int
def Sto.l (s:Sto):List L:=s.disk.l++[.d (.i .i64 s.ver),.d (.l (s.segs.map Seg.enc)),.d (.i .i64 s.next),.d (.i .i64 s.sure),.d (.i .i64 s.size),.d (.i .u32 s.sum)]
def Sto.man (s:Sto):Man:=⟨s.ver,s.segs.map Seg.base,s.size,s.sum⟩
def cM (r:Sto × Int):V:=.tup [(true,r.1.l),(false,[.d (.i .i64 r.2)])]
def Nn:List Seg->Int->Nat->Seg->Seg
 | l,off,0,z=>l.headD z
 | l,off,k+1,z=>match l[k+1]? with|some g=>if g.base > off then Nn l off k z else g|none=>z
def Sto.hld (s:Sto) (off:Int):Seg:=Nn s.segs off (s.segs.length-1) ⟨0,0,0⟩
structure okS (k u:Nat) (s:Sto):Prop where
 dsk:okN k u s.disk
 len:1<=s.segs.length∧s.segs.length<=64
 seg:∀ g∈s.segs,(0<=g.base∧g.base<=1099511627776)∧(0<=g.n∧g.n<=u)∧(0<=g.size∧g.size<=u)
 next:0<=s.next∧s.next<=1099511627776
 ver:0<=s.ver∧s.ver<=u
 sum:0<=s.sum∧s.sum<4294967296
def Sto.last (s:Sto):Seg:=s.segs.getLastD ⟨0,0,0⟩
theorem rM {s:Sto} (h:1<=s.segs.length):s.segs.getLast?=some s.last:=by
 unfold Sto.last;rw[List.getLastD_eq_getLast?];cases hc:s.segs.getLast? with
 | some g=>rfl
 | none=>rw[List.getLast?_eq_none_iff] at hc;rw[hc] at h;exact absurd h (by decide)
theorem mg {s:Sto} (h:1<=s.segs.length):s.last∈s.segs:=List.mem_of_getLast? (rM h)
def fileN (n:Int):Txt:=eU 115 n.toNat
theorem rJ {n:Int} (h:0<=n∧n<=1099511627776):call 52 [vi n] []=some (vs (fileN n),[]):=by
 have:=Hh n.toNat (by omega)
 have e:((n.toNat:Nat):Int)=n:=by omega
 rw[e] at this;exact this
def a8 (s:Sto):Sto × Int :=
 let r:=au s.disk (cJ s.disk.files (fileN s.last.base))
 ({ s with disk:=r.1,sure:=if r.2=0 then s.next else s.sure },r.2)
def kj (segs:List Seg) (i:Nat):List (List D):=(segs.take i).map (fun g=>eI g.base)++List.replicate (segs.length-i) (eI 0)
theorem C8 (segs:List Seg) (i:Nat) (h:i<=segs.length):(kj segs i).length=segs.length:=by simp[kj];omega
theorem Hm (segs:List Seg) (i:Nat) (h:i<segs.length):(kj segs i)[i]?=some (eI 0):=by
 unfold kj;rw[List.getElem?_append_right (by simp;omega),List.getElem?_replicate]
 rw[if_pos];simp;omega
theorem D1 (segs:List Seg) (i:Nat) (h:i<segs.length):(kj segs i).set i (eI segs[i].base)=kj segs (i+1):=by
 unfold kj;have e:segs.length-i=(segs.length-(i+1))+1:=by omega
 rw[List.set_append_right _ _ (by simp;omega),e,List.replicate_succ,List.take_succ_eq_append_getElem h,List.map_append]
 have e2:i-((segs.take i).map fun g=>eI g.base).length=0:=by simp;omega
 rw[e2];simp
set_option maxRecDepth 8000 in
theorem Fb (s:Sto) (hl:s.segs.length<=1000000):call 54 [.agg s.l] []=some (.agg s.man.l,[]):=by
 apply ai P0 rfl;obtain⟨⟨fl,cp,ar,lf,dn⟩,ver,segs,next,sure,size,sum⟩:=s;simp only at hl;unfold Sto.man;(simp(disch:=first|decide|omega|(intros;exact rfl)|simp only[aa]) only[Pv,Sto.l,Dsk.l,Man.l,go_sem,seval,aq,cw,A.kind,A.xs,aP,A.isN])
 refine aI (m:=0) (σ:=Nat) (fun i=>segs.length-i) (fun i=>i<=segs.length) (fun i=>[V.one (.p 0 0),V.one (.p 1 0),vl (segs.map Seg.enc),vi segs.length,vi i])
  (fun i=>[.cells [.d (.i .i64 0),.ns,.d (.i .i64 0),.d (.i .u32 0)],.cells [.d (.i .i64 ver),.sl 2 1 0 segs.length,.d (.i .i64 size),.d (.i .u32 sum)],.arr 1 (kj segs i) 0]) (fun _=>(V.agg [.d (.i .i64 ver),.d (.l ((segs.map Seg.base).map eI)),.d (.i .i64 size),.d (.i .u32 sum)],[])) ?_ 0 (Nat.zero_le _) _ _ ?_
 rotate_left
 ·have e:kj segs 0=List.replicate segs.length [D.i .i64 0]:=by simp[kj,eI]
  rw[e];exact cG
 intro i hi R hR;have hln:=C8 segs i hi;by_cases c:i<segs.length
 ·have g1:(segs.map Seg.enc)[i]?=some segs[i].enc:=by simp[c]
  have g2:=Hm segs i c;have g3:=D1 segs i c;have hR':=hR (i+1) (by omega) (by omega)
  rw[<- g3] at hR';generalize kj segs i=Q at *;generalize segs[i]=g at *;obtain⟨b,n,z⟩:=g;simp only[eI] at g2 hR';(simp(disch:=first|decide|omega|(intros;exact rfl)|simp only[aa]) only[GS,c,g1,g2,Seg.enc,hln,go_sem,seval,aq])
  exact hR' _ _ cG
 ·have e:i=segs.length:=by omega
  subst e;have e2:kj segs segs.length=segs.map fun g=>eI g.base:=by simp[kj]
  rw[e2] at hln ⊢;have e3:(segs.map Seg.base).map eI=segs.map fun g=>eI g.base:=by simp
  rw[e3];generalize (segs.map fun g=>eI g.base)=Q at *
  have e4:Q.take segs.length=Q:=List.take_of_length_le (by omega)
  (simp(disch:=first|decide|omega|(intros;exact rfl)|simp only[aa]) only[GS,e4,hln,go_sem,seval,aq])
  try simp[trim,V.refs,L.refs,Box.refs]
def aR (d:Dsk):Sto × Int :=
 let s1:=bQ (fileN 0) (d,0)
 let s2:=if s1.2=0 then bR ⟨1,[0],0,0⟩ s1 else s1
 if s2.2=0 then(⟨s2.1,1,[⟨0,0,0⟩],0,0,0,0⟩,0) else(⟨s2.1,0,[],0,0,0,0⟩,s2.2)
set_option maxRecDepth 8000 in
theorem GJ {k u:Nat} (d:Dsk) (hd:okN k u d) (hk:k<=800000) (hu:u<=800000000000):call 24 [.agg d.l] []=some (cM (aR d),[]):=by
 apply ai P7 rfl;unfold aR;simp only[];have q1:=rJ (n:=0) ⟨by decide,by decide⟩
 have k1:=fN (s:=(d,0)) hd (fileN 0);have q2:=oh (d,0) (hd.ok (by omega) (by omega)) (fileN 0)
 have q3:=Fb ⟨⟨[],0,false,0,false⟩,1,[⟨0,0,0⟩],0,0,0,0⟩ (by simp)
 have q4:=fun s1 (h:okN (k+1) u s1.1)=>Ai s1 h (by omega) (by omega) ⟨1,[0],0,0⟩ ⟨by simp,by simp⟩
 have q4:=q4 _ k1;generalize bQ (fileN 0) (d,0)=s1 at *;generalize bR ⟨1,[0],0,0⟩ s1=s3 at *;obtain⟨fl,cp,ar,lf,dn⟩:=d;obtain⟨⟨fl1,cp1,ar1,lf1,dn1⟩,e1⟩:=s1;obtain⟨⟨fl3,cp3,ar3,lf3,dn3⟩,e3⟩:=s3;simp only[eQ,Dsk.l,Sto.l,Seg.enc,Sto.man,Man.l,List.cons_append,List.nil_append,List.map_cons,List.map_nil,eI] at q1 q2 q3 q4 ⊢;have r2:∀ P Q R T:Box,az call 51 [.one (.p 4 0),vs (fileN 0)] [P,Q,R,T,.cells [.d (.l (fl.map Fil.enc)),.d (.i .i64 cp),.d (.b ar),.d (.i .i64 lf),.d (.b dn),.d (.i .i64 0)]]=some (.tup [],[P,Q,R,T,.cells [.d (.l (fl1.map Fil.enc)),.d (.i .i64 cp1),.d (.b ar1),.d (.i .i64 lf1),.d (.b dn1),.d (.i .i64 e1)]]):=fun P Q R T =>
  aU (ids:=[4]) rfl rfl rfl q2 rfl
 have r4:∀ P Q R T:Box,az call 53 [.one (.p 4 0),.agg [.d (.i .i64 1),.d (.l [[.i .i64 0]]),.d (.i .i64 0),.d (.i .u32 0)]] [P,Q,R,T,.cells [.d (.l (fl1.map Fil.enc)),.d (.i .i64 cp1),.d (.b ar1),.d (.i .i64 lf1),.d (.b dn1),.d (.i .i64 e1)]]=some (.tup [],[P,Q,R,T,.cells [.d (.l (fl3.map Fil.enc)),.d (.i .i64 cp3),.d (.b ar3),.d (.i .i64 lf3),.d (.b dn3),.d (.i .i64 e3)]]):=fun P Q R T =>
  aU (ids:=[4]) rfl rfl rfl q4 rfl
 by_cases c:e1=0
 ·subst c;by_cases c3:e3=0
  ·subst c3;(simp(disch:=first|decide|omega|(intros;exact rfl)|simp only[aa]) only[aS,a24,q1,↓r2,q3,↓r4,go_sem,seval,aq,cw,A.kind,A.xs,aP,A.isN])
   try simp[trim,cM,Sto.l,Dsk.l,Seg.enc]
  ·(simp(disch:=first|decide|omega|(intros;exact rfl)|simp only[aa]) only[aS,a24,q1,↓r2,q3,↓r4,c3,go_sem,seval,aq,cw,A.kind,A.xs,aP,A.isN])
   try simp[trim,cM,Sto.l,Dsk.l,Seg.enc,c3]
 ·(simp(disch:=first|decide|omega|(intros;exact rfl)|simp only[aa]) only[aS,a24,q1,↓r2,c,go_sem,seval,aq,cw,A.kind,A.xs,aP,A.isN])
  try simp[trim,cM,Sto.l,Dsk.l,Seg.enc,c]
def iv (s:Sto):Sto:={ s with ver:=s.ver+1,segs:=s.segs++[⟨s.next,0,0⟩] }
def dI (s:Sto):Dsk × Int :=
 let c:=bQ (fileN s.next) (s.disk,0)
 if c.2=0 then cL (fileN s.next) (bR (iv s).man c) else c
def bN (s:Sto):Sto × Int :=
 if 64<=s.segs.length then(s,9) else
  if(a8 s).2≠0 then a8 s else
   if(dI (a8 s).1).2=0 then({ iv (a8 s).1 with disk:=(dI (a8 s).1).1 },0)
   else({ (a8 s).1 with disk:=(dI (a8 s).1).1 },(dI (a8 s).1).2)
theorem mj {k u:Nat} {s:Sto} (h:okS k u s):okS k u (a8 s).1:=by
 refine⟨?_,h.len,h.seg,h.next,h.ver,h.sum⟩;have:=lU (s:=(s.disk,0)) h.dsk (fileN s.last.base);exact this
theorem okS.up {k u k' u':Nat} {s:Sto} (h:okS k u s) (hk:k<=k') (hu:u<=u'):okS k' u' s :=
 ⟨h.dsk.up hk hu,h.len,fun g hg=>by have:=h.seg g hg;omega,h.next,by have:=h.ver;omega,h.sum⟩
theorem Gu {k u:Nat} {s:Sto} (h:okS k u s):okN (k+2) (u+800) (dI s).1:=by
 unfold dI;simp only[];have k1:=fN (s:=(s.disk,0)) h.dsk (fileN s.next);split
 ·exact lT (kl k1 _) _
 ·exact k1.up (by omega) (by omega)
theorem oK {k u:Nat} {s:Sto} (h:okS k u s):okS (k+2) (u+800) (bN s).1:=by
 unfold bN;have h1:=mj h;have hsl:(a8 s).1.segs=s.segs:=rfl;split
 ·exact h.up (by omega) (by omega)
 ·rename_i c;split
  ·exact h1.up (by omega) (by omega)
  ·have hd:=Gu h1;generalize (a8 s).1=s1 at *;have h2:=h1.up (k':=k+2) (u':=u+800) (by omega) (by omega)
   split
   ·refine⟨hd,?_,?_,h2.next,?_,h2.sum⟩
    ·show 1<=(s1.segs++[_]).length∧(s1.segs++[_]).length<=64;rw[List.length_append,List.length_singleton,hsl];omega
    ·intro g hg;rcases List.mem_append.1 hg with hg|hg
     ·exact h2.seg g hg
     ·rw[List.mem_singleton.1 hg];exact⟨h1.next,by simp only[];omega,by simp only[];omega⟩
    ·show 0<=s1.ver+1∧s1.ver+1<=_;have:=h1.ver;omega
   ·exact⟨hd,h2.len,h2.seg,h2.next,h2.ver,h2.sum⟩
def dx (r:Rec):Txt × Int:=if whyF r=0 then(aK (bA r),0) else([],whyF r)
theorem yM (r:Rec):(dx r).1.length<=90:=by
 unfold dx;split
 ·rename_i h;have hb:=(oc.1 h).blen;have h9:=gP (n:=(bA r).length) (by omega)
  show(aK (bA r)).length<=90;rw[jo];omega
 ·simp
def vm (s:Sto) (n:Nat):Sto:={ s with segs:=s.segs.dropLast++[⟨s.last.base,s.last.n+1,s.last.size+n⟩],next:=s.next+1 }
def dW (t:Sto) (x:Txt):Sto × Int :=
 let d:=au t.disk (bV t.disk.files t.disk.cap (fileN t.last.base) x)
 if d.2≠0 then({ t with disk:=d.1 },d.2) else({ vm t x.length with disk:=d.1 },0)
def gd (s:Sto) (seg:Int) (r:Rec):Sto × Int :=
 if(dx r).2≠0∨r.at_≠s.next then(s,1) else
  if 1099511627776<=s.next then(s,13) else
   if seg<=s.last.size then(if(bN s).2≠0 then bN s else dW (bN s).1 (dx r).1) else dW s (dx r).1
theorem Ca {k u:Nat} {s:Sto} (h:okS k u s) (x:Txt) (hn:s.next<1099511627776):okS k (u+x.length+1) (dW s x).1:=by
 have h1:=lW (s:=(s.disk,0)) h.dsk (fileN s.last.base) x;have h2:okN k (u+x.length+1) (au s.disk (bV s.disk.files s.disk.cap (fileN s.last.base) x)).1:=okN.up (k:=k) (u:=u+x.length) h1 (Nat.le_refl _) (by omega)
 have h3:=h.up (k':=k) (u':=u+x.length+1) (Nat.le_refl _) (by omega)
 unfold dW;simp only[];split
 ·exact⟨h2,h3.len,h3.seg,h3.next,h3.ver,h3.sum⟩
 ·refine⟨h2,?_,?_,?_,h3.ver,h3.sum⟩
  ·show 1<=(s.segs.dropLast++[_]).length∧(s.segs.dropLast++[_]).length<=64;have:=h.len;rw[List.length_append,List.length_singleton,List.length_dropLast];omega
  ·intro g hg;rcases List.mem_append.1 hg with hg|hg
   ·exact h3.seg g (List.dropLast_subset _ hg)
   ·rw[List.mem_singleton.1 hg];have:=h.seg _ (mg h.len.1);exact⟨this.1,by simp only[];omega,by simp only[];omega⟩
  ·show 0<=s.next+1∧s.next+1<=_;have:=h.next;omega
theorem Bc {k u:Nat} {s:Sto} (h:okS k u s) (seg:Int) (r:Rec):okS (k+2) (u+1000) (gd s seg r).1:=by
 have hl:=yM r;unfold gd;have hr:=oK h;split
 ·exact h.up (by omega) (by omega)
 ·split
  ·exact h.up (by omega) (by omega)
  ·rename_i c;split
   ·split
    ·exact hr.up (by omega) (by omega)
    ·have hn:(bN s).1.next=s.next:=by
      unfold bN a8 iv;split
      ·rfl
      ·split
       ·rfl
       ·split <;> rfl
     exact(Ca hr _ (by rw[hn];omega)).up (by omega) (by omega)
   ·exact(Ca h _ (by omega)).up (by omega) (by omega)
theorem sY (s:Sto):(bN s).1.next=s.next:=by
 unfold bN a8 iv;split
 ·rfl
 ·split
  ·rfl
  ·split <;> rfl
theorem eD (l:List Fil) (n:Txt):(aC l n).1.length<=usedF l:=by
 unfold aC;split
 ·rename_i f hf;split
  ·obtain⟨h,rfl⟩:=List.getElem?_eq_some_iff.1 hf;have h1:=mr l (aw l n+1);rw[List.take_succ_eq_append_getElem h,cu,gk] at h1;simp only[];omega
  ·simp
 ·simp
def Sto.floor (s:Sto):Int:=match s.segs with|[]=>0|g::_=>g.base
def Sto.txt (s:Sto) (g:Seg):Txt:=(aC s.disk.files (fileN g.base)).1
def hasD (l:List Fil) (n d:Txt):Prop:=∃ f∈l,f.name=n∧f.data=d
theorem pY {l:List Fil} {n d:Txt} (hs:srt l) (h:hasD l n d):aC l n=(d,0):=by
 obtain⟨f,hf,rfl,rfl⟩:=h;obtain⟨i,hi,rfl⟩:=List.getElem_of_mem hf;unfold aC;rw[Hq hs i hi,List.getElem?_eq_getElem hi];simp
theorem Ba {d:Dsk} {r:List Fil × Int} (h:(au d r).2=0):r.2=0∧(au d r).1.files=r.1:=by
 unfold au at h ⊢;split at h
 ·cases h
 ·rename_i h1;split at h
  ·rename_i h2;exact absurd h h2
  ·rename_i h2;rw[if_neg h1,if_neg h2];split at h
   ·rename_i h3;split at h
    ·cases h
    ·rename_i h4;rw[if_pos h3,if_neg h4];exact⟨by simpa using h2,rfl⟩
   ·rename_i h3;rw[if_neg h3];exact⟨by simpa using h2,rfl⟩
theorem lH {d:Dsk} {r:List Fil × Int} {n x:Txt} (h:hasD d.files n x) (hr:r.2=0->hasD r.1 n x):hasD (au d r).1.files n x:=by
 unfold au;split
 ·exact h
 ·split
  ·exact h
  ·rename_i h2;have h3:=hr (by simpa using h2)
   split
   ·split
    ·exact h
    ·exact h3
   ·exact h3
theorem w5 {l:List Fil} {n x:Txt} (k:Nat) (g:Fil) (h:hasD l n x):hasD (gC l k g) n x:=by
 obtain⟨f,hf,h1⟩:=h;refine⟨f,?_,h1⟩;unfold gC;rw[<- List.take_append_drop k l] at hf;rcases List.mem_append.1 hf with hf|hf
 ·exact List.mem_append_left _ hf
 ·exact List.mem_append_right _ (List.mem_cons_of_mem _ hf)
theorem Jj (l:List Fil) (k:Nat) (g:Fil):hasD (gC l k g) g.name g.data:=⟨g,by unfold gC;simp,rfl,rfl⟩
theorem tv {l:List Fil} {n x:Txt} (k:Nat) (hk:k<l.length) (g:Fil) (h:hasD l n x) (hn:l[k].name≠n):hasD (l.set k g) n x:=by
 obtain⟨f,hf,h1,h2⟩:=h;obtain⟨i,hi,rfl⟩:=List.getElem_of_mem hf;have hne:k≠i:=fun e=>by subst e;exact hn h1
 refine⟨l[i],?_,h1,h2⟩;have e:l[i]=(l.set k g)[i]'(by simpa using hi):=by rw[List.getElem_set_ne hne]
 rw[e];exact List.getElem_mem _
theorem G3 {l:List Fil} {k:Nat} (hk:k<l.length) (g:Fil):g∈l.set k g:=by
 have hm:(l.set k g)[k]'(by simpa using hk)∈l.set k g:=List.getElem_mem _
 rwa [List.getElem_set_self] at hm
theorem BY {l:List Fil} (k:Nat) (hk:k<l.length) (g:Fil):hasD (l.set k g) g.name g.data:=by
 exact⟨g,G3 hk g,rfl,rfl⟩
theorem yy {l:List Fil} {n x:Txt} (k:Nat) (hk:k<l.length) (h:hasD l n x) (hn:l[k].name≠n):hasD (ef l k) n x:=by
 obtain⟨f,hf,h1,h2⟩:=h;refine⟨f,?_,h1,h2⟩;have e:l=l.take k++([l[k]]++l.drop (k+1)):=by rw[List.singleton_append,<- List.drop_eq_getElem_cons hk,List.take_append_drop]
 rw[e] at hf;unfold ef;rcases List.mem_append.1 hf with hf|hf
 ·exact List.mem_append_left _ hf
 ·rcases List.mem_append.1 hf with hf|hf
  ·rw[List.mem_singleton.1 hf] at h1;exact absurd h1 hn
  ·exact List.mem_append_right _ hf
theorem lR {s:Dsk × Int} {f:Dsk->Dsk × Int} {n x:Txt} (h:hasD s.1.files n x) (hf:hasD (f s.1).1.files n x):hasD (qX s f).1.files n x:=by
 unfold qX;split
 ·exact hf
 ·exact h
theorem xQ {s:Dsk × Int} {n x:Txt} (m:Txt) (h:hasD s.1.files n x):hasD (bQ m s).1.files n x:=by
 refine lR h (lH h fun h0=>?_)
 unfold bP at h0 ⊢;split at h0
 ·rename_i h1;split at h0
  ·cases h0
  ·rename_i h2;rw[if_pos h1,if_neg h2];exact w5 _ _ h
 ·cases h0
theorem tL {s:Dsk × Int} {n x m:Txt} (hm:m≠n) (h:hasD s.1.files n x):hasD (cN m s).1.files n x:=by
 refine lR h (lH h fun h0=>?_)
 unfold bZ at h0 ⊢;split at h0
 ·rename_i h1;obtain⟨hp,he⟩:=bL h1;rw[if_pos h1];exact yy _ hp h (by rw[he];exact hm)
 ·cases h0
theorem yr {s:Dsk × Int} {n x:Txt} (hs:srt s.1.files) (m:Txt) (h:hasD s.1.files n x):hasD (ee m s).1.files n x:=by
 refine lR h (lH h fun h0=>?_)
 unfold cJ at h0 ⊢;split at h0
 ·rename_i h1;obtain⟨hp,he⟩:=bL h1;rw[if_pos h1,gL hp];by_cases hm:m=n
  ·have hr:=pY hs h;unfold aC at hr;rw[<- hm,List.getElem?_eq_getElem hp] at hr;simp only[he,if_true,Prod.mk.injEq,and_true] at hr;refine(?_:∀ G:Fil,G.name=n->G.data=x->hasD (s.1.files.set (aw s.1.files m) G) n x) _ (he.trans hm) hr;rintro G rfl rfl;exact BY _ hp G
  ·exact tv _ hp _ h (by rw[he];exact hm)
 ·cases h0
theorem yb {s:Dsk × Int} {n x m:Txt} (hm:m≠n) (t:Txt) (h:hasD s.1.files n x):hasD (j5 m t s).1.files n x:=by
 refine lR h (lH h fun h0=>?_)
 unfold bV at h0 ⊢;split at h0
 ·rename_i h1;split at h0
  ·cases h0
  ·rename_i h2;obtain⟨hp,he⟩:=bL h1;rw[if_pos h1,if_neg h2,gL hp];exact tv _ hp _ h (by rw[he];exact hm)
 ·cases h0
theorem EK {s:Dsk × Int} {n x m t:Txt} (hm:m≠n) (ht:t≠n) (h:hasD s.1.files n x):hasD (tZ m t s).1.files n x:=by
 refine lR h (lH h fun h0=>?_)
 unfold iy at h0 ⊢;split at h0
 ·rename_i h1;split at h0
  ·rename_i h2;obtain⟨hp,he⟩:=bL h1;rw[if_pos h1,if_pos h2];have h3:=yy _ hp h (by rw[he];exact hm)
   unfold iu;split
   ·rename_i h4;obtain⟨hp4,he4⟩:=bL h4;exact tv _ hp4 _ h3 (by rw[he4,wY];exact ht)
   ·exact w5 _ _ h3
  ·cases h0
 ·cases h0
theorem wU {s:Dsk × Int} {n x m:Txt} (hm:m≠n) (h:hasD s.1.files n x):hasD (cL m s).1.files n x:=by
 unfold cL;split
 ·exact h
 ·split
  ·exact tL (s:=(s.1,0)) hm h
  ·exact tL (s:=(s.1,0)) hm h
theorem py {k u:Nat} {s:Dsk × Int} (hd:okN k u s.1) {n x:Txt} (m:Man) (h1:[110]≠n) (h2:[109]≠n) (h:hasD s.1.files n x):hasD (bR m s).1.files n x:=by
 unfold bR;have h3:hasD (if s.2=0 then(s.1,(bK m).2) else s).1.files n x:=by split <;> exact h
 have k1:okN k u (if s.2=0 then(s.1,(bK m).2) else s).1:=by split <;> exact hd
 generalize (if s.2=0 then(s.1,(bK m).2) else s)=s1 at *
 have h4:hasD (if(aC s1.1.files [110]).2=0 then cN [110] s1 else s1).1.files n x:=by
  split
  ·exact tL h1 h3
  ·exact h3
 have k2:okN k u (if(aC s1.1.files [110]).2=0 then cN [110] s1 else s1).1:=by
  split
  ·exact ft k1 _
  ·exact k1
 simp only[];generalize (if(aC s1.1.files [110]).2=0 then cN [110] s1 else s1)=s2 at *
 have h5:=xQ [110] h4;have k3:=fN k2 [110];split
 ·exact h5
 ·exact EK h1 h2 (yr (lT (lW k3 [110] (bK m).1) [110]).srt _ (wU h1 (yb h1 _ h5)))
theorem IE {d:Dsk} {n x t:Txt} (hs:srt d.files) (h:hasD d.files n x) (h0:(au d (bV d.files d.cap n t)).2=0):hasD (au d (bV d.files d.cap n t)).1.files n (x++t):=by
 obtain⟨h1,h2⟩:=Ba h0;rw[h2];unfold bV at h1 ⊢;split at h1
 ·rename_i h3;split at h1
  ·cases h1
  ·rename_i h4;obtain⟨hp,he⟩:=bL h3;have hr:=pY hs h;unfold aC at hr;rw[List.getElem?_eq_getElem hp] at hr;simp only[he,if_true,Prod.mk.injEq,and_true] at hr;rw[if_pos h3,if_neg h4,gL hp];refine(?_:∀ G:Fil,G.name=n->G.data=x++t->hasD (d.files.set (aw d.files n) G) n (x++t)) _ he (by simp[hr])
   rintro G rfl hG;rw[<- hG];exact BY _ hp G
 ·cases h1
theorem BF {d:Dsk} {n:Txt} (h0:(bQ n (d,0)).2=0):hasD (bQ n (d,0)).1.files n []:=by
 unfold bQ qX at h0 ⊢;rw[if_pos rfl] at h0 ⊢;obtain⟨h1,h2⟩:=Ba h0;rw[h2];unfold bP at h1 ⊢;split at h1
 ·rename_i h3;split at h1
  ·cases h1
  ·rename_i h4;rw[if_pos h3,if_neg h4];exact Jj _ _ ⟨n,[],0⟩
 ·cases h1
theorem BZ (n j:Nat):jk n j<58:=by unfold jk;omega
theorem Cv {a b:Nat} (h:eU 115 a=eU 115 b) (j:Nat) (hj:j<13):a / 10 ^ (12-j) % 10=b / 10 ^ (12-j) % 10:=by
 unfold eU at h;simp only[List.cons.injEq,true_and] at h;have h1:=List.map_inj_left.1 h j (by simpa using hj)
 have h2:=congrArg UInt8.toNat h1;have ha:=BZ a (j+1);have hb:=BZ b (j+1);rw[UInt8.toNat_ofNat_of_lt' (by show _<256;omega),UInt8.toNat_ofNat_of_lt' (by show _<256;omega)] at h2
 unfold jk at h2;have e:13-(j+1)=12-j:=by omega
 rw[e] at h2;omega
theorem C4 {a b:Nat} (ha:a<10 ^ 13) (hb:b<10 ^ 13) (h:eU 115 a=eU 115 b):a=b:=by
 have key:∀ k,k<=13->a / 10 ^ (13-k)=b / 10 ^ (13-k):=by
  intro k;induction k with
  | zero=>intro _;rw[Nat.div_eq_of_lt ha,Nat.div_eq_of_lt hb]
  | succ k ih =>
   intro hk;have h1:=ih (by omega)
   have h2:=Cv h k (by omega)
   have e:13-k=(12-k)+1:=by omega
   have e2:13-(k+1)=12-k:=by omega
   rw[e,Nat.pow_succ,<- Nat.div_div_eq_div_mul,<- Nat.div_div_eq_div_mul] at h1;rw[e2];omega
 have:=key 13 (by omega)
 simpa using this
theorem dL {a b:Int} (ha:0<=a∧a<=1099511627776) (hb:0<=b∧b<=1099511627776) (h:fileN a=fileN b):a=b:=by
 have:=C4 (a:=a.toNat) (b:=b.toNat) (by omega) (by omega) h
 omega
theorem mF (a:Int) (c:UInt8):[c]≠fileN a:=fun h=>by
 have:=congrArg List.length h;simp[fileN,eU] at this
abbrev SR:=Seg × List Rec
def chainM:Int->List SR->Int->Prop
 | b,[],e=>b=e
 | b,p::M,e=>p.1.base=b∧1<=p.2.length∧chainM (b+p.2.length) M e
theorem tE:∀ (M:List SR) (b:Int) (p:SR) (e:Int),chainM b (M++[p]) e↔(chainM b M p.1.base∧1<=p.2.length∧p.1.base+p.2.length=e)
 | [],b,p,e=>by
  simp only[List.nil_append,chainM];constructor
  ·rintro⟨rfl,h2,h3⟩;exact⟨rfl,h2,h3⟩
  ·rintro⟨rfl,h2,h3⟩;exact⟨rfl,h2,h3⟩
 | q::M,b,p,e=>by
  simp only[List.cons_append,chainM,tE M];constructor
  ·rintro⟨h1,h2,h3,h4,h5⟩;exact⟨⟨h1,h2,h3⟩,h4,h5⟩
  ·rintro⟨⟨h1,h2,h3⟩,h4,h5⟩;exact⟨h1,h2,h3,h4,h5⟩
theorem iL:∀ (M:List SR) (b e:Int),chainM b M e->b<=e∧∀ p∈M,b<=p.1.base∧p.1.base+p.2.length<=e∧1<=p.2.length
 | [],b,e,h=>⟨by simp only[chainM] at h;omega,fun _ h=>by cases h⟩
 | q::M,b,e,h=>by
  obtain⟨h1,h2,h3⟩:=h;obtain⟨h4,h5⟩:=iL M _ _ h3;refine⟨by omega,fun p hp=>?_⟩
  rcases List.mem_cons.1 hp with rfl|hp
  ·exact⟨by omega,by omega,h2⟩
  ·have:=h5 p hp;exact⟨by omega,this.2.1,this.2.2⟩
def aY (M:List SR):List Rec:=M.flatMap (·.2)
theorem cZ (M N:List SR):aY (M++N)=aY M++aY N:=List.flatMap_append
theorem dM (p:SR):aY [p]=p.2:=by simp[aY]
theorem iQ:∀ (M:List SR) (b e:Int),chainM b M e->b+(aY M).length=e
 | [],b,e,h=>by simpa[aY,chainM] using h
 | q::M,b,e,h=>by
  obtain⟨h1,h2,h3⟩:=h;have:=iQ M _ _ h3;have e1:aY (q::M)=q.2++aY M:=rfl;rw[e1,List.length_append];omega
structure fileOk (fs:List Fil) (p:SR):Prop where
 has:hasD fs (fileN p.1.base) (rowS p.2)
 why:∀ r∈p.2,whyF r=0
 num:numB p.1.base p.2
 n:p.1.n=p.2.length
 size:p.1.size=(rowS p.2).length
structure Inv (f:Int) (s:Sto) (M:List SR) (g:Seg) (l:List Rec):Prop where
 segs:s.segs=M.map (·.1)++[g]
 file:∀ p∈M++[(g,l)],fileOk s.disk.files p
 chain:chainM f M g.base
 next:s.next=g.base+l.length
 sure:0<=s.sure∧s.sure<=s.next
theorem EI {b:Int} {l:List Rec} (h:numB b l) (k:Nat) (hk:k<l.length):l.find? (fun r=>decide (r.at_=b+k))=some l[k]:=by
 rw[List.find?_eq_some_iff_getElem];refine⟨by simpa using h k hk,k,hk,rfl,fun j hj=>?_⟩
 have:=h j (by omega)
 simp only[Bool.not_eq_true',decide_eq_false_iff_not];omega
theorem Gh {d:Dsk} {r:List Fil × Int} (h:(au d r).2≠0):(au d r).1.files=d.files:=by
 unfold au at h ⊢;split
 ·rfl
 ·rename_i h1;rw[if_neg h1] at h;split
  ·rfl
  ·rename_i h2;rw[if_neg h2] at h;split
   ·rename_i h3;rw[if_pos h3] at h;split
    ·rfl
    ·rename_i h4;rw[if_neg h4] at h;exact absurd rfl h
   ·rename_i h3;rw[if_neg h3] at h;exact absurd rfl h
theorem fileOk.keep {fs fs':List Fil} {p:SR} (h:fileOk fs p) (hk:hasD fs (fileN p.1.base) (rowS p.2)->hasD fs' (fileN p.1.base) (rowS p.2)):fileOk fs' p:=⟨hk h.has,h.why,h.num,h.n,h.size⟩
theorem Inv.last {f:Int} {s:Sto} {M:List SR} {g:Seg} {l:List Rec} (h:Inv f s M g l):s.last=g:=by
 unfold Sto.last;rw[h.segs];simp
theorem Inv.disk {f:Int} {s:Sto} {M:List SR} {g:Seg} {l:List Rec} (h:Inv f s M g l) (d:Dsk) (hk:∀ p∈M++[(g,l)],hasD s.disk.files (fileN p.1.base) (rowS p.2)->hasD d.files (fileN p.1.base) (rowS p.2)):Inv f { s with disk:=d } M g l :=
 ⟨h.segs,fun p hp=>(h.file p hp).keep (hk p hp),h.chain,h.next,h.sure⟩
theorem yx {k u:Nat} {f:Int} {s:Sto} {M:List SR} {g:Seg} {l:List Rec} (ho:okS k u s) (h:Inv f s M g l) (hn:0<=s.next):Inv f (a8 s).1 M g l:=by
 have h1:Inv f { s with disk:=(au s.disk (cJ s.disk.files (fileN s.last.base))).1 } M g l:=h.disk _ fun p _ hd=>yr (s:=(s.disk,0)) ho.dsk.srt _ hd
 refine⟨h1.segs,h1.file,h1.chain,h1.next,?_⟩;unfold a8;simp only[];have:=h.sure;split <;> omega
theorem CI {k u:Nat} {s:Sto} (ho:okS k u s) (h:s.sure<=s.next):s.sure<=(a8 s).1.sure:=by
 unfold a8;simp only[];split <;> omega
theorem zF {k u:Nat} {s:Sto} (ho:okS k u s) {n x:Txt} (h1:[110]≠n) (h2:[109]≠n) (h3:fileN s.next≠n) (h:hasD s.disk.files n x):hasD (dI s).1.files n x:=by
 unfold dI;simp only[];have k1:=fN (s:=(s.disk,0)) ho.dsk (fileN s.next);have h4:=xQ (s:=(s.disk,0)) (fileN s.next) h;split
 ·exact wU h3 (py k1 _ h1 h2 h4)
 ·exact h4
theorem CE {k u:Nat} {s:Sto} (ho:okS k u s) (h:(dI s).2=0):hasD (dI s).1.files (fileN s.next) []:=by
 unfold dI at h ⊢;simp only[] at h ⊢;have k1:=fN (s:=(s.disk,0)) ho.dsk (fileN s.next);by_cases c:(bQ (fileN s.next) (s.disk,0)).2=0
 ·rw[if_pos c] at h ⊢;have h4:=py k1 (iv s).man (mF _ _) (mF _ _) (BF c);unfold cL at h ⊢;split at h
  ·rename_i h5;rw[if_pos h5];exact h4
  ·split at h
   ·cases h
   ·rename_i h6;exact absurd h h6
 ·rw[if_neg c] at h;exact absurd h c
theorem Gl {k u:Nat} {f:Int} {s:Sto} {M:List SR} {g:Seg} {l:List Rec} (ho:okS k u s) (h:Inv f s M g l) (hl:l≠[]):∀ p∈M++[(g,l)],fileN s.next≠fileN p.1.base:=by
 intro p hp he;have hpm:p.1∈s.segs:=by
  rw[h.segs];rcases List.mem_append.1 hp with hp|hp
  ·exact List.mem_append_left _ (List.mem_map_of_mem hp)
  ·rw[List.mem_singleton.1 hp];simp
 have:=dL ho.next (ho.seg _ hpm).1 he;have hll:0<l.length:=List.length_pos_iff.2 hl;have hnx:=h.next;rcases List.mem_append.1 hp with hp|hp
 ·have:=(iL _ _ _ h.chain).2 p hp;omega
 ·rw[List.mem_singleton.1 hp] at this;simp only[] at this;omega
theorem F3 {k u:Nat} {f:Int} {s:Sto} {M:List SR} {g:Seg} {l:List Rec} (ho:okS k u s) (h:Inv f s M g l) (hl:l≠[]) :
  ((bN s).2≠0∧Inv f (bN s).1 M g l)∨((bN s).2=0∧Inv f (bN s).1 (M++[(g,l)]) ⟨s.next,0,0⟩ []):=by
 have h1:=yx ho h ho.next.1;have o1:=mj ho;have hn:(a8 s).1.next=s.next:=rfl;unfold bN;by_cases c1:64<=s.segs.length
 ·rw[if_pos c1];exact .inl ⟨by simp,h⟩
 ·rw[if_neg c1];by_cases c2:(a8 s).2=0
  ·rw[if_neg (by simp[c2])]
   generalize (a8 s).1=t at *;have hk:∀ p∈M++[(g,l)],hasD t.disk.files (fileN p.1.base) (rowS p.2)->hasD (dI t).1.files (fileN p.1.base) (rowS p.2):=fun p hp hd =>
    zF o1 (mF _ _) (mF _ _) (Gl o1 h1 hl p hp) hd
   by_cases c3:(dI t).2=0
   ·rw[if_pos c3];refine .inr ⟨rfl,?_,?_,?_,?_,?_⟩
    ·show t.segs++[_]=_;rw[h1.segs,hn];simp
    ·intro p hp;rcases List.mem_append.1 hp with hp|hp
     ·exact(h1.file p hp).keep (hk p hp)
     ·rw[List.mem_singleton.1 hp];have:=CE o1 c3;rw[hn] at this;exact⟨this,fun r hr=>(by cases hr),fun k hk=>(by simp at hk),rfl,rfl⟩
    ·rw[tE];refine⟨h1.chain,List.length_pos_iff.2 hl,?_⟩;have:=h1.next;rw[hn] at this;simp only[];omega
    ·show t.next=s.next+_;rw[hn];simp
    ·exact h1.sure
   ·rw[if_neg c3];exact .inl ⟨c3,h1.disk _ hk⟩
  ·rw[if_pos c2];exact .inl ⟨c2,h1⟩
theorem mL (l:List Rec) (r:Rec):rowS (l++[r])=rowS l++aK (bA r):=by
 unfold rowS;rw[List.flatMap_append];simp[AZ]
theorem JQ {k u:Nat} {f:Int} {s:Sto} {M:List SR} {g:Seg} {l:List Rec} (ho:okS k u s) (h:Inv f s M g l) (r:Rec) (hr:whyF r=0) (ha:r.at_=s.next) :
  ((dW s (dx r).1).2≠0∧Inv f (dW s (dx r).1).1 M g l)∨((dW s (dx r).1).2=0∧Inv f (dW s (dx r).1).1 M ⟨g.base,g.n+1,g.size+(aK (bA r)).length⟩ (l++[r])):=by
 have hl:=h.last;have e1:(dx r).1=aK (bA r):=by unfold dx;rw[if_pos hr]
 have hgm:g∈s.segs:=by rw[h.segs];simp
 have hk:∀ p∈M,hasD s.disk.files (fileN p.1.base) (rowS p.2)->hasD (au s.disk (bV s.disk.files s.disk.cap (fileN g.base) (aK (bA r)))).1.files (fileN p.1.base) (rowS p.2):=by
  intro p hp hd;refine yb (s:=(s.disk,0)) (fun he=>?_) _ hd
  have hpm:p.1∈s.segs:=by rw[h.segs];exact List.mem_append_left _ (List.mem_map_of_mem hp)
  have:=dL (ho.seg _ hgm).1 (ho.seg _ hpm).1 he;have:=(iL _ _ _ h.chain).2 p hp;omega
 have hg:=h.file (g,l) (by simp)
 have hnx:=h.next;unfold dW;simp only[hl,e1];by_cases c:(au s.disk (bV s.disk.files s.disk.cap (fileN g.base) (aK (bA r)))).2=0
 ·rw[if_neg (by simp[c])]
  refine .inr ⟨rfl,?_,?_,h.chain,?_,?_⟩
  ·show s.segs.dropLast++[_]=_;rw[hl,h.segs];simp
  ·intro p hp;rcases List.mem_append.1 hp with hp|hp
   ·exact(h.file p (List.mem_append_left _ hp)).keep (hk p hp)
   ·rw[List.mem_singleton.1 hp];refine⟨?_,?_,?_,?_,?_⟩
    ·rw[mL];exact IE ho.dsk.srt hg.has c
    ·intro x hx;rcases List.mem_append.1 hx with hx|hx
     ·exact hg.why x hx
     ·rw[List.mem_singleton.1 hx];exact hr
    ·intro j hj;rw[List.length_append,List.length_singleton] at hj;rcases Nat.lt_or_ge j l.length with h3|h3
     ·rw[List.getElem_append_left h3];exact hg.num j h3
     ·have:j=l.length:=by omega
      subst this;simp only[List.getElem_concat_length];omega
    ·have:=hg.n;simp only[List.length_append,List.length_singleton] at this ⊢;omega
    ·have:=hg.size;rw[mL];simp only[List.length_append] at this ⊢;omega
  ·show s.next+1=g.base+_;rw[List.length_append,List.length_singleton];omega
  ·have:=h.sure;show 0<=s.sure∧s.sure<=s.next+1;omega
 ·rw[if_pos c];refine .inl ⟨c,h.disk _ fun p hp hd=>?_⟩
  rw[Gh c];exact hd
structure Pr where
 key:Int
 val:List UInt8
 deriving DecidableEq
def Pr.enc (e:Pr):List D:=[.i .u8 e.key,.s e.val]
theorem Pr.len (e:Pr):e.enc.length=2:=Eq.trans rfl rfl
theorem Pr.tk (e:Pr):e.enc.take 2=e.enc:=Eq.trans rfl rfl
theorem Pr.tkL (e:Pr):(e.enc.map L.d).take 2=e.enc.map L.d:=Eq.trans rfl rfl
theorem Pr.dat (e:Pr):eb (e.enc.map L.d)=some (e.enc.map L.d):=Eq.trans rfl rfl
theorem Pr.rfs (e:Pr):(e.enc.map L.d).flatMap L.refs=[]:=Eq.trans rfl rfl
theorem Pr.rn (e:Pr) (g:Nat->Option Nat):(e.enc.map L.d).map (L.ren g)=e.enc.map L.d:=Eq.trans rfl rfl
theorem Pr.lenL (e:Pr):(e.enc.map L.d).length=2:=Eq.trans rfl rfl
theorem Pr.at0 (e:Pr):e.enc[0]?=some (.i .u8 e.key):=Eq.trans rfl rfl
theorem Pr.fd0 (e:Pr):(e.enc.map L.d)[0]?=some (.d (.i .u8 e.key)):=Eq.trans rfl rfl
theorem Pr.at1 (e:Pr):(e.enc.drop 1)[0]?=some (.s e.val):=Eq.trans rfl rfl
theorem Pr.fd1 (e:Pr):(e.enc.map L.d)[1]?=some (.d (.s e.val)):=Eq.trans rfl rfl
theorem Pr.up1 (e:Pr) (x:List UInt8):e.enc.take 1++[.s x]++e.enc.drop 2=({ e with val:=x }:Pr).enc:=Eq.trans rfl rfl
def Pr.ok (e:Pr):Prop:=(0<=e.key∧e.key<256)∧e.val.length<=9223372036854775807
def Pr.ty:List Ty:=[.i .u8,.s]
theorem Pr.eqs (a b:Pr):fT [0,2] (a.enc.map L.d) (b.enc.map L.d)=some (decide (a=b)):=by
 cases a;cases b;simp only[Pr.enc,List.map_cons,List.map_nil,fT,oT,if_true,Pr.mk.injEq];congr 1
 rw[Bool.eq_iff_iff];simp only[Bool.and_eq_true,beq_iff_eq,decide_eq_true_eq,and_true]
theorem Pr.of (r:List D) (h:cC Pr.ty r):∃ e:Pr,r=e.enc∧e.ok:=by
 simp only[Pr.ty,cC,Ee] at h;obtain⟨_,_,rfl,⟨x0,rfl,h0,g0⟩,⟨_,_,rfl,⟨x1,rfl,h1⟩,rfl⟩⟩:=h;refine⟨⟨x0,x1⟩,rfl,?_⟩;exact⟨⟨Int.le_trans (by decide) h0,Int.lt_of_le_of_lt g0 (by decide)⟩,h1⟩
def vq (p:Pr):Bool:=decide (1<=p.val.length) && decide (p.val.length<=63)
def jF (l:List Pr) (i:Nat):Int:=match l[i]? with|some p=>p.key|none=>0
def qR (l:List Pr) (i:Nat):Bool:=match l[i]? with
 | some p=>vq p && (decide (i=0) || decide (jF l (i-1)<p.key))
 | none=>true
def fF (l:List Pr):Bool:=(List.range l.length).all (qR l)
theorem A0 (l:List Pr) (i:Nat) (h:i<l.length):((List.range l.length).drop i).all (qR l)=(qR l i && ((List.range l.length).drop (i+1)).all (qR l)):=by
 rw[List.drop_eq_getElem_cons (by simpa using h),List.all_cons,List.getElem_range]
theorem CF (l:List Pr) (i:Nat) (h:l.length<=i):((List.range l.length).drop i).all (qR l)=true:=by
 rw[List.drop_eq_nil_of_le (by simpa using h)];rfl
set_option maxHeartbeats 1000000 in
theorem DB (l:List Pr) (hl:l.length<=1000000):call 75 [vl (l.map Pr.enc)] []=some (vb (fF l),[]):=by
 apply ai Q5 rfl;(simp(disch:=first|decide|omega|(intros;exact rfl)|simp only[aa]) only[Od,go_sem,seval,aq])
 refine aI (m:=0) (σ:=Nat) (fun i=>l.length-i) (fun i=>i<=l.length∧fF l=((List.range l.length).drop i).all (qR l)) (fun i=>[vl (l.map Pr.enc),vi i]) (fun _=>[])
  (fun _=>(vb (fF l),[])) ?_ 0 ⟨Nat.zero_le _,rfl⟩ _ _ cG
 intro i ⟨h1,h2⟩ R hR;by_cases hi:i<l.length
 ·rw[A0 l i hi] at h2;have g1:(l.map Pr.enc)[i]?=some l[i].enc:=by simp[hi]
  have ha:qR l i=(vq l[i] && (decide (i=0) || decide (jF l (i-1)<l[i].key))):=by simp[qR,hi]
  rw[ha] at h2;obtain⟨p,hp⟩:∃ p,p=l[i]:=⟨_,rfl⟩;rw[<- hp] at g1 h2;by_cases c1:(p.val.length:Int)<1
  ·have e:fF l=false:=by rw[h2];simp[vq];omega
   rw[e];(simp(disch:=first|decide|omega|(intros;exact rfl)|simp only[aa]) only[rZ,g1,Pr.enc,decide_eq_true c1,go_sem,seval,aq])
   try simp[trim]
  ·by_cases c2:(63:Int)<p.val.length
   ·have e:fF l=false:=by rw[h2];simp[vq];omega
    rw[e];(simp(disch:=first|decide|omega|(intros;exact rfl)|simp only[aa]) only[rZ,g1,Pr.enc,decide_eq_false c1,decide_eq_true c2,go_sem,seval,aq])
    try simp[trim]
   ·have hk:vq p=true:=by simp[vq];omega
    rw[hk,Bool.true_and] at h2;by_cases c3:i=0
    ·have hi0:¬ (0:Int)<(i:Int):=by omega
     rw[decide_eq_true c3,Bool.true_or,Bool.true_and] at h2;(simp(disch:=first|decide|omega|(intros;exact rfl)|simp only[aa]) only[rZ,g1,Pr.enc,decide_eq_false c1,decide_eq_false c2,decide_eq_false hi0,go_sem,seval,aq])
     exact hR (i+1) (by omega) ⟨by omega,h2⟩ _ _ cG
    ·have hi0:(0:Int)<(i:Int):=by omega
     have hm:((i:Int)-1).toNat=i-1:=by omega
     have hm0:(0:Int)<=(i:Int)-1:=by omega
     have g2:(l.map Pr.enc)[i-1]?=some l[i-1].enc:=by rw[List.getElem?_map,List.getElem?_eq_getElem (by omega)];rfl
     have hq:jF l (i-1)=l[i-1].key:=by
      have:l[i-1]?=some l[i-1]:=List.getElem?_eq_getElem (by omega)
      simp[jF,this]
     rw[hq,decide_eq_false c3,Bool.false_or] at h2;obtain⟨q,hqe⟩:∃ q,q=l[i-1]:=⟨_,rfl⟩;rw[<- hqe] at g2 h2;by_cases c4:p.key<=q.key
     ·have e:fF l=false:=by rw[h2,decide_eq_false (by omega)];rfl
      rw[e];(simp(disch:=first|decide|omega|(intros;exact rfl)|simp only[aa]) only[rZ,g1,g2,hm,hm0,Pr.enc,decide_eq_false c1,decide_eq_false c2,decide_eq_true hi0,decide_eq_true c4,go_sem,seval,aq])
      try simp[trim]
     ·rw[decide_eq_true (p:=q.key<p.key) (by omega),Bool.true_and] at h2
      (simp(disch:=first|decide|omega|(intros;exact rfl)|simp only[aa]) only[rZ,g1,g2,hm,hm0,Pr.enc,decide_eq_false c1,decide_eq_false c2,decide_eq_true hi0,decide_eq_false c4,go_sem,seval,aq])
      exact hR (i+1) (by omega) ⟨by omega,h2⟩ _ _ cG
 ·have e:fF l=true:=by rw[h2,CF l i (by omega)]
  rw[e];(simp(disch:=first|decide|omega|(intros;exact rfl)|simp only[aa]) only[rZ,Od,go_sem,seval,aq])
  try simp[trim]
def oI (s:List UInt8) (a:Nat):Option (Pr × Nat):=match jx (s.drop (a+1)) 0 0 with
 | some (n,k)=>if s.length<a+1+k+n then none else some (⟨((s[a]?.getD 0).toNat:Int),(s.take (a+1+k+n)).drop (a+1+k)⟩,a+1+k+n)
 | none=>none
def gE (s:List UInt8):Nat->Nat->List Pr->Option (List Pr × Nat)
 | 0,a,out=>some (out,a)
 | n+1,a,out=>match oI s a with
  | some (p,b)=>gE s n b (out++[p])
  | none=>none
def nb (s:List UInt8):Option (List Pr × Nat)->Option (List Pr)
 | some (out,a)=>if a=s.length∧fF out=true then some out else none
 | none=>none
def ch (s:List UInt8):Option (List Pr):=match jx s 0 0 with
 | some (n,k)=>if 256<n then none else nb s (gE s n k [])
 | none=>none
def i6:Option (List Pr)->V
 | some l=>.tup [(false,[.d (.l (l.map Pr.enc))]),(false,[.d (.b true)])]
 | none=>.tup [(false,[.d (.l [])]),(false,[.d (.b false)])]
set_option maxRecDepth 4000 in
set_option maxHeartbeats 2000000 in
theorem C9 (s:List UInt8) (hs:s.length<=1000000000):call 40 [vs s] []=some (i6 (ch s),[]):=by
 apply ai QZ rfl;have h0:=gu s 0 (by decide) (by omega)
 rw[List.drop_zero] at h0;have z0:((0:Nat):Int)=0:=rfl;rw[z0] at h0;cases hn:jx s 0 0 with
 | none =>
  have e:ch s=none:=by simp only[ch,hn]
  rw[hn] at h0;rw[e];(simp(disch:=first|decide|omega|(intros;exact rfl)|simp only[aa]) only[LM,h0,jY,i6,go_sem,seval,aq])
  try simp[trim]
 | some q =>
  obtain⟨n,k⟩:=q;have hk:=(fk hn).2.1;rw[hn] at h0;by_cases c1:(256:Int)<(n:Int)
  ·have e:ch s=none:=by simp only[ch,hn];rw[if_pos (by omega)]
   rw[e];(simp(disch:=first|decide|omega|(intros;exact rfl)|simp only[aa]) only[LM,h0,jY,i6,decide_eq_true c1,go_sem,seval,aq])
   try simp[trim]
  ·have e:ch s=nb s (gE s n k []):=by simp only[ch,hn];rw[if_neg (by omega)]
   rw[e];have ek:(((0+k:Nat)):Int)=(k:Int):=by rw[Nat.zero_add]
   (simp(disch:=first|decide|omega|(intros;exact rfl)|simp only[aa]) only[LM,h0,jY,decide_eq_false c1,ek,go_sem,seval,aq])
   refine aI (m:=0) (σ:=Nat × Nat × List Pr) (fun t=>n-t.1) (fun t=>t.1<=n∧t.2.1<=s.length∧t.2.2.length=t.1∧gE s n k []=gE s (n-t.1) t.2.1 t.2.2) (fun t=>[vs s,vi n,vi t.2.1,V.one (.sl 0 2 0 t.2.2.length),vi t.1]) (fun t=>[.arr 2 (t.2.2.map Pr.enc) 0])
    (fun _=>(i6 (nb s (gE s n k [])),[])) ?_ (0,k,[]) ⟨Nat.zero_le _,hk,rfl,rfl⟩ _ _ cG
   rintro⟨i,a,out⟩ ⟨h1,h2,h3,h4⟩ R hR;simp only at h1 h2 h3 h4;by_cases hi:i<n
   ·by_cases ca:(s.length:Int)<=(a:Int)
    ·have e0:jx (s.drop (a+1)) 0 0=none:=by rw[List.drop_eq_nil_of_le (by omega)];rfl
     obtain⟨m,hm⟩:∃ m,n-i=m+1:=⟨n-i-1,by omega⟩
     have e1:gE s n k []=none:=by rw[h4,hm,gE];simp only[oI,e0]
     rw[e1];(simp(disch:=first|decide|omega|(intros;exact rfl)|simp only[aa]) only[qt,decide_eq_true ca,i6,nb,go_sem,seval,aq])
     try simp[trim]
    obtain⟨m,hm⟩:∃ m,n-i=m+1:=⟨n-i-1,by omega⟩
    rw[hm,gE] at h4;have hr:=gu s (a+1) (by omega) (by omega)
    rw[Int.natCast_add,Int.natCast_one] at hr;cases hp:jx (s.drop (a+1)) 0 0 with
    | none =>
     have e1:gE s n k []=none:=by rw[h4];simp only[oI,hp]
     rw[hp] at hr;rw[e1];(simp(disch:=first|decide|omega|(intros;exact rfl)|simp only[aa]) only[qt,decide_eq_false ca,hr,jY,i6,nb,go_sem,seval,aq])
     try simp[trim]
    | some q =>
     obtain⟨w,j⟩:=q;have hj:=fk hp;have hjl:a+1+j<=s.length:=by have:=hj.2.1;rw[List.length_drop] at this;omega
     rw[hp] at hr;by_cases c2:(s.length:Int)-((a+1+j:Nat):Int)<(w:Int)
     ·have e1:gE s n k []=none:=by rw[h4];simp only[oI,hp];rw[if_pos (by omega)]
      rw[e1];(simp(disch:=first|decide|omega|(intros;exact rfl)|simp only[aa]) only[qt,decide_eq_false ca,hr,jY,i6,nb,decide_eq_true c2,go_sem,seval,aq])
      try simp[trim]
     ·have ha:a<s.length:=by omega
      have hc:s[a]?=some s[a]:=List.getElem?_eq_getElem ha;have e1:oI s a=some (⟨(s[a].toNat:Int),(s.take (a+1+j+w)).drop (a+1+j)⟩,a+1+j+w):=by
       simp only[oI,hp];rw[if_neg (by omega),hc];rfl
      rw[e1] at h4;simp only at h4;have ew:(((a+1+j:Nat)):Int)+(w:Int)=((a+1+j+w:Nat):Int):=by omega
      have hw:(((a+1+j+w:Nat)):Int).toNat=a+1+j+w:=by omega
      (simp(disch:=first|decide|omega|(intros;exact rfl)|simp only[aa]) only[qt,decide_eq_false ca,hr,jY,decide_eq_false c2,hc,ew,go_sem,seval,aq])
      have hR':=hR ((i+1,a+1+j+w,out++[⟨(s[a].toNat:Int),(s.take (a+1+j+w)).drop (a+1+j)⟩])) (by first|omega|(simp only[];omega)) ⟨by omega,by simp only[];omega,by simp[h3],by rw[h4];congr 1;omega⟩;simp only[Pr.enc,List.length_append,List.length_cons,List.length_nil,Nat.zero_add,List.map_append,List.map_cons,List.map_nil] at hR';exact hR' _ _ cG
   ·have hin:i=n:=by omega
    subst hin;rw[Nat.sub_self,gE] at h4;rw[h4];have hr:=DB out (by omega)
    have ht:List.take out.length (out.map Pr.enc)=out.map Pr.enc:=List.take_of_length_le (by simp)
    by_cases c3:(a:Int)≠(s.length:Int)
    ·have e1:nb s (some (out,a))=none:=by simp only[nb];rw[if_neg (by omega)]
     rw[e1];(simp(disch:=first|decide|omega|(intros;exact rfl)|simp only[aa]) only[qt,LM,bne_iff_ne.2 c3,i6,go_sem,seval,aq])
     try simp[trim]
    ·have c3':((a:Int) != (s.length:Int))=false:=by simpa using c3
     cases hq:fF out with
     | false =>
      have e1:nb s (some (out,a))=none:=by simp only[nb,hq];rw[if_neg (by simp)]
      rw[e1];rw[hq] at hr;(simp(disch:=first|decide|omega|(intros;exact rfl)|simp only[aa]) only[qt,LM,c3',hr,ht,i6,go_sem,seval,aq])
      try simp[trim]
     | true =>
      have e1:nb s (some (out,a))=some out:=by simp only[nb,hq];rw[if_pos ⟨by omega,trivial⟩]
      rw[e1];rw[hq] at hr;(simp(disch:=first|decide|omega|(intros;exact rfl)|simp only[aa]) only[qt,LM,c3',hr,ht,i6,go_sem,seval,aq])
      try simp[trim]
def eL (l:List Pr):List UInt8->List Pr
 | []=>l
 | c::r=>l.takeWhile (fun p=>decide (p.key<(c.toNat:Int)))++(if r=[] then[] else[⟨(c.toNat:Int),r⟩])++l.filter (fun p=>decide ((c.toNat:Int)<p.key))
theorem J1 (P:Pr->Bool) (l:List Pr) (i:Nat) (h:i<l.length):(l.drop i).takeWhile P=if P l[i]=true then l[i]::(l.drop (i+1)).takeWhile P else[]:=by
 rw[List.drop_eq_getElem_cons h,List.takeWhile_cons]
theorem Gq (l:List Pr) (i:Nat) (h:i<l.length):(l.take i).map Pr.enc++[l[i].enc]=(l.take (i+1)).map Pr.enc:=by
 rw[List.take_succ_eq_append_getElem h,List.map_append];rfl
theorem om (Q:Pr->Bool) (l:List Pr) (i:Nat) (h:i<l.length):(l.take (i+1)).filter Q=(l.take i).filter Q++(if Q l[i]=true then[l[i]] else[]):=by
 rw[List.take_succ_eq_append_getElem h,List.filter_append];congr 1
 by_cases hq:Q l[i]=true <;> simp[hq]
theorem oY (Q:Pr->Bool) (l:List Pr) (i:Nat):((l.take i).filter Q).length<=l.length :=
 Nat.le_trans (List.length_filter_le _ _) (by simp;omega)
set_option maxRecDepth 4000 in
set_option maxHeartbeats 2000000 in
theorem step_ref (l:List Pr) (hl:l.length<=1000000) (d:List UInt8) (hd:d.length<=1000000):call 42 [vl (l.map Pr.enc),vs d] []=some (vl ((eL l d).map Pr.enc),[]):=by
 apply ai Qf rfl;have hok:bf 2 (l.map Pr.enc)=true:=bH Pr.len _;cases d with
 | nil =>
  have e0:(([]:List UInt8) == [])=true:=rfl;have ht:List.take l.length (l.map Pr.enc)=l.map Pr.enc:=List.take_of_length_le (by simp)
  (simp(disch:=first|decide|omega|(intros;exact rfl)|simp only[aa]) only[Hf,e0,hok,ht,go_sem,seval,aq])
  try simp[trim,eL]
 | cons c r =>
  have e0:((c::r) == ([]:List UInt8))=false:=rfl;obtain⟨Z,hZ⟩:∃ Z:V × Hp,Z=(vl ((eL l (c::r)).map Pr.enc),[]):=⟨_,rfl⟩;rw[<- hZ];have hc0:(c::r)[0]?=some c:=rfl;have hlr:(c::r).length<=1000000:=hd;obtain⟨dt,hD⟩:∃ dt,dt=c::r:=⟨_,rfl⟩;rw[<- hD] at hc0 e0 hlr hZ ⊢;(simp(disch:=first|decide|omega|(intros;exact rfl)|simp only[aa]) only[Hf,e0,go_sem,seval,aq])
  refine aI (m:=0) (σ:=Nat) (fun i=>l.length-i) (fun i=>i<=l.length∧l.takeWhile (fun p=>decide (p.key<(c.toNat:Int)))=l.take i++(l.drop i).takeWhile (fun p=>decide (p.key<(c.toNat:Int)))) (fun i=>[vl (l.map Pr.enc),vs dt,V.one (.sl 0 2 0 (l.take i).length),vi i]) (fun i=>[.arr 2 ((l.take i).map Pr.enc) 0])
   (fun _=>Z) ?_ 0 ⟨Nat.zero_le _,by simp⟩ _ _ cG
  intro i ⟨h1,h2⟩ R hR;have key:l.takeWhile (fun p=>decide (p.key<(c.toNat:Int)))=l.take i->Z=(vl ((l.take i++(if r=[] then[] else[(⟨(c.toNat:Int),r⟩:Pr)])++l.filter (fun(p:Pr)=>decide ((c.toNat:Int)<p.key))).map Pr.enc),[]):=by
   intro he;rw[hZ,hD,eL,he]
  have two:∀ (i:Nat) (h:i<l.length),(l.map Pr.enc)[i]?=some l[i].enc:=fun i h=>by rw[List.getElem?_map,List.getElem?_eq_getElem h];rfl
  have hlen:(l.take i).length=i:=by simp;omega
  have go:(i<l.length->jF l i<(c.toNat:Int))∨(i<l.length->¬ jF l i<(c.toNat:Int)):=by
   by_cases h:jF l i<(c.toNat:Int)
   ·exact .inl fun _=>h
   ·exact .inr fun _=>h
  have kat:∀ (i:Nat) (h:i<l.length),jF l i=l[i].key:=fun i h=>by
   have:l[i]?=some l[i]:=List.getElem?_eq_getElem h;simp[jF,this]
  by_cases hi:i<l.length∧jF l i<(c.toNat:Int)
  ·obtain⟨hi,c1⟩:=hi;have g1:=two i hi;rw[kat i hi] at c1;rw[J1 _ l i hi,if_pos (decide_eq_true c1)] at h2;have ho:=Gq l i hi;have hl1:(l.take i).length+1=(l.take (i+1)).length:=by simp;omega
   have h3:l.takeWhile (fun p=>decide (p.key<(c.toNat:Int)))=l.take (i+1)++(l.drop (i+1)).takeWhile (fun p=>decide (p.key<(c.toNat:Int))):=by rw[h2,List.take_succ_eq_append_getElem hi,List.append_assoc];rfl
   obtain⟨p,hp⟩:∃ p,p=l[i]:=⟨_,rfl⟩;rw[<- hp] at g1 c1 ho;have hb:(l.take i).length<=1000000:=by omega
   obtain⟨B,hB⟩:∃ B,B=l.take i:=⟨_,rfl⟩;rw[<- hB] at ho hl1 hb ⊢;(simp(disch:=first|decide|omega|(intros;exact rfl)|simp only[aa]) only[uC,g1,Pr.len,Pr.tk,Pr.tkL,Pr.at0,hc0,decide_eq_true c1,ho,hl1,go_sem,seval,aq])
   exact hR (i+1) (by omega) ⟨by omega,h3⟩ _ _ cG
  ·have he:l.takeWhile (fun p=>decide (p.key<(c.toNat:Int)))=l.take i:=by
    rw[h2];by_cases hj:i<l.length
    ·rw[J1 _ l i hj,if_neg ?_,List.append_nil];intro hc;exact hi ⟨hj,by rw[kat i hj];simpa using hc⟩
    ·rw[List.drop_eq_nil_of_le (by omega)];simp
   have hz:=key he;have hb:(l.take i).length<=1000000:=by omega
   clear key he h2 hR hlen;obtain⟨B,hB⟩:∃ B,B=l.take i:=⟨_,rfl⟩;rw[<- hB] at hz hb ⊢;clear hB;obtain⟨B',hB',hm,hl2⟩:∃ B':List Pr,B'=B++[⟨(c.toNat:Int),r⟩]∧B.map Pr.enc++[[.i .u8 (c.toNat:Int),.s r]]=B'.map Pr.enc∧B.length+1=B'.length:=⟨_,rfl,by simp[Pr.enc],by simp⟩
   have hdr:List.drop 1 dt=r:=by rw[hD];rfl
   have hdt:List.take dt.length dt=dt:=List.take_length;by_cases hr:r=[]
   ·have hdl:¬ (1:Int)<(dt.length:Int):=by rw[hD,hr];simp
    rw[if_pos hr,List.append_nil] at hz;clear hm hl2 hB' B';by_cases hj:i<l.length
    ·have g1:=two i hj;have c1:¬ l[i].key<(c.toNat:Int):=fun h=>hi ⟨hj,by rw[kat i hj];exact h⟩
     obtain⟨p,hp⟩:∃ p,p=l[i]:=⟨_,rfl⟩;rw[<- hp] at g1 c1;(simp(disch:=first|decide|omega|(intros;exact rfl)|simp only[aa]) only[uC,Hf,g1,Pr.len,Pr.tk,Pr.tkL,Pr.at0,hc0,decide_eq_false c1,decide_eq_false hdl,go_sem,seval,aq])
     refine aI (m:=0) (σ:=Nat) (fun j=>l.length-j) (fun j=>j<=l.length) (fun j=>[vl (l.map Pr.enc),vs dt,V.one (.sl 0 2 0 (B++(l.take j).filter (fun(p:Pr)=>decide ((c.toNat:Int)<p.key))).length),vi j]) (fun j=>[.arr 2 ((B++(l.take j).filter (fun(p:Pr)=>decide ((c.toNat:Int)<p.key))).map Pr.enc) 0])
      (fun _=>Z) ?_ 0 (Nat.zero_le _) _ _ (at_head2 (by decide) (by simp only[List.map_cons,List.map_nil,go_sem,seval];exact rfl) (by simp[aN,aD,ay,aF,ax,V.ren,L.ren,Box.ren,V.refs,L.refs,Box.refs,List.append_nil]) (by simp[aN,aD,ay,aF,ax,V.ren,L.ren,Box.ren,V.refs,L.refs,Box.refs,List.append_nil]))
     intro j h1 R hR;by_cases hi:j<l.length
     ·have g1:=two j hi;have hf:=om (fun(p:Pr)=>decide ((c.toNat:Int)<p.key)) l j hi
      have hfl:=oY (fun(p:Pr)=>decide ((c.toNat:Int)<p.key)) l j
      obtain⟨p,hp⟩:∃ p,p=l[j]:=⟨_,rfl⟩;rw[<- hp] at g1 hf;by_cases c2:(c.toNat:Int)<p.key
      ·rw[if_pos (decide_eq_true c2)] at hf;have hR':=hR (j+1) (by omega) (by omega)
       rw[hf] at hR';obtain⟨C,hC⟩:∃ C,C=B++(l.take j).filter (fun(p:Pr)=>decide ((c.toNat:Int)<p.key)):=⟨_,rfl⟩
       have hcl:C.length<=2000001:=by rw[hC,List.length_append];omega
       rw[<- List.append_assoc,<- hC] at hR';rw[<- hC];obtain⟨C',hC',hm1,hm2⟩:∃ C':List Pr,C++[p]=C'∧C.map Pr.enc++[p.enc]=C'.map Pr.enc∧C.length+1=C'.length:=⟨_,rfl,by simp,by simp⟩
       rw[hC'] at hR';(simp(disch:=first|decide|omega|(intros;exact rfl)|simp only[aa]) only[ko,g1,Pr.len,Pr.tk,Pr.tkL,Pr.at0,hc0,decide_eq_true c2,hm1,hm2,go_sem,seval,aq])
       exact hR' _ _ cG
      ·rw[if_neg (by simpa using c2),List.append_nil] at hf
       have hR':=hR (j+1) (by omega) (by omega)
       rw[hf] at hR';generalize B++(l.take j).filter (fun(p:Pr)=>decide ((c.toNat:Int)<p.key))=C at hR' ⊢
       (simp(disch:=first|decide|omega|(intros;exact rfl)|simp only[aa]) only[ko,g1,Pr.len,Pr.tk,Pr.tkL,Pr.at0,hc0,decide_eq_false c2,go_sem,seval,aq])
       exact hR' _ _ cG
     ·have hj2:l.take j=l:=List.take_of_length_le (by omega)
      rw[hj2];obtain⟨C,hC⟩:∃ C,C=B++l.filter (fun(p:Pr)=>decide ((c.toNat:Int)<p.key)):=⟨_,rfl⟩
      rw[<- hC] at hz ⊢;rw[hz];have ht:List.take C.length (C.map Pr.enc)=C.map Pr.enc:=List.take_of_length_le (by simp)
      (simp(disch:=first|decide|omega|(intros;exact rfl)|simp only[aa]) only[ko,Hf,ht,go_sem,seval,aq])
      try simp[trim]
    ·(simp(disch:=first|decide|omega|(intros;exact rfl)|simp only[aa]) only[uC,Hf,decide_eq_false hdl,go_sem,seval,aq])
     refine aI (m:=0) (σ:=Nat) (fun j=>l.length-j) (fun j=>j<=l.length) (fun j=>[vl (l.map Pr.enc),vs dt,V.one (.sl 0 2 0 (B++(l.take j).filter (fun(p:Pr)=>decide ((c.toNat:Int)<p.key))).length),vi j]) (fun j=>[.arr 2 ((B++(l.take j).filter (fun(p:Pr)=>decide ((c.toNat:Int)<p.key))).map Pr.enc) 0])
      (fun _=>Z) ?_ 0 (Nat.zero_le _) _ _ (at_head2 (by decide) (by simp only[List.map_cons,List.map_nil,go_sem,seval];exact rfl) (by simp[aN,aD,ay,aF,ax,V.ren,L.ren,Box.ren,V.refs,L.refs,Box.refs,List.append_nil]) (by simp[aN,aD,ay,aF,ax,V.ren,L.ren,Box.ren,V.refs,L.refs,Box.refs,List.append_nil]))
     intro j h1 R hR;by_cases hi:j<l.length
     ·have g1:=two j hi;have hf:=om (fun(p:Pr)=>decide ((c.toNat:Int)<p.key)) l j hi
      have hfl:=oY (fun(p:Pr)=>decide ((c.toNat:Int)<p.key)) l j
      obtain⟨p,hp⟩:∃ p,p=l[j]:=⟨_,rfl⟩;rw[<- hp] at g1 hf;by_cases c2:(c.toNat:Int)<p.key
      ·rw[if_pos (decide_eq_true c2)] at hf;have hR':=hR (j+1) (by omega) (by omega)
       rw[hf] at hR';obtain⟨C,hC⟩:∃ C,C=B++(l.take j).filter (fun(p:Pr)=>decide ((c.toNat:Int)<p.key)):=⟨_,rfl⟩
       have hcl:C.length<=2000001:=by rw[hC,List.length_append];omega
       rw[<- List.append_assoc,<- hC] at hR';rw[<- hC];obtain⟨C',hC',hm1,hm2⟩:∃ C':List Pr,C++[p]=C'∧C.map Pr.enc++[p.enc]=C'.map Pr.enc∧C.length+1=C'.length:=⟨_,rfl,by simp,by simp⟩
       rw[hC'] at hR';(simp(disch:=first|decide|omega|(intros;exact rfl)|simp only[aa]) only[ko,g1,Pr.len,Pr.tk,Pr.tkL,Pr.at0,hc0,decide_eq_true c2,hm1,hm2,go_sem,seval,aq])
       exact hR' _ _ cG
      ·rw[if_neg (by simpa using c2),List.append_nil] at hf
       have hR':=hR (j+1) (by omega) (by omega)
       rw[hf] at hR';generalize B++(l.take j).filter (fun(p:Pr)=>decide ((c.toNat:Int)<p.key))=C at hR' ⊢
       (simp(disch:=first|decide|omega|(intros;exact rfl)|simp only[aa]) only[ko,g1,Pr.len,Pr.tk,Pr.tkL,Pr.at0,hc0,decide_eq_false c2,go_sem,seval,aq])
       exact hR' _ _ cG
     ·have hj2:l.take j=l:=List.take_of_length_le (by omega)
      rw[hj2];obtain⟨C,hC⟩:∃ C,C=B++l.filter (fun(p:Pr)=>decide ((c.toNat:Int)<p.key)):=⟨_,rfl⟩
      rw[<- hC] at hz ⊢;rw[hz];have ht:List.take C.length (C.map Pr.enc)=C.map Pr.enc:=List.take_of_length_le (by simp)
      (simp(disch:=first|decide|omega|(intros;exact rfl)|simp only[aa]) only[ko,Hf,ht,go_sem,seval,aq])
      try simp[trim]
   ·have hdl:(1:Int)<(dt.length:Int):=by
     rw[hD];have:=List.length_pos_iff.2 hr;simp;omega
    rw[if_neg hr,<- hB'] at hz;have hb:B'.length<=1000001:=by omega
    by_cases hj:i<l.length
    ·have g1:=two i hj;have c1:¬ l[i].key<(c.toNat:Int):=fun h=>hi ⟨hj,by rw[kat i hj];exact h⟩
     obtain⟨p,hp⟩:∃ p,p=l[i]:=⟨_,rfl⟩;rw[<- hp] at g1 c1;(simp(disch:=first|decide|omega|(intros;exact rfl)|simp only[aa]) only[uC,Hf,g1,Pr.len,Pr.tk,Pr.tkL,Pr.at0,hc0,hdt,hdr,decide_eq_false c1,decide_eq_true hdl,hm,hl2,go_sem,seval,aq])
     refine aI (m:=0) (σ:=Nat) (fun j=>l.length-j) (fun j=>j<=l.length) (fun j=>[vl (l.map Pr.enc),vs dt,V.one (.sl 0 2 0 (B'++(l.take j).filter (fun(p:Pr)=>decide ((c.toNat:Int)<p.key))).length),vi j]) (fun j=>[.arr 2 ((B'++(l.take j).filter (fun(p:Pr)=>decide ((c.toNat:Int)<p.key))).map Pr.enc) 0])
      (fun _=>Z) ?_ 0 (Nat.zero_le _) _ _ (at_head2 (by decide) (by simp only[List.map_cons,List.map_nil,go_sem,seval];exact rfl) (by simp[aN,aD,ay,aF,ax,V.ren,L.ren,Box.ren,V.refs,L.refs,Box.refs,List.append_nil]) (by simp[aN,aD,ay,aF,ax,V.ren,L.ren,Box.ren,V.refs,L.refs,Box.refs,List.append_nil]))
     intro j h1 R hR;by_cases hi:j<l.length
     ·have g1:=two j hi;have hf:=om (fun(p:Pr)=>decide ((c.toNat:Int)<p.key)) l j hi
      have hfl:=oY (fun(p:Pr)=>decide ((c.toNat:Int)<p.key)) l j
      obtain⟨p,hp⟩:∃ p,p=l[j]:=⟨_,rfl⟩;rw[<- hp] at g1 hf;by_cases c2:(c.toNat:Int)<p.key
      ·rw[if_pos (decide_eq_true c2)] at hf;have hR':=hR (j+1) (by omega) (by omega)
       rw[hf] at hR';obtain⟨C,hC⟩:∃ C,C=B'++(l.take j).filter (fun(p:Pr)=>decide ((c.toNat:Int)<p.key)):=⟨_,rfl⟩
       have hcl:C.length<=2000001:=by rw[hC,List.length_append];omega
       rw[<- List.append_assoc,<- hC] at hR';rw[<- hC];obtain⟨C',hC',hm1,hm2⟩:∃ C':List Pr,C++[p]=C'∧C.map Pr.enc++[p.enc]=C'.map Pr.enc∧C.length+1=C'.length:=⟨_,rfl,by simp,by simp⟩
       rw[hC'] at hR';(simp(disch:=first|decide|omega|(intros;exact rfl)|simp only[aa]) only[ko,g1,Pr.len,Pr.tk,Pr.tkL,Pr.at0,hc0,decide_eq_true c2,hm1,hm2,go_sem,seval,aq])
       exact hR' _ _ cG
      ·rw[if_neg (by simpa using c2),List.append_nil] at hf
       have hR':=hR (j+1) (by omega) (by omega)
       rw[hf] at hR';generalize B'++(l.take j).filter (fun(p:Pr)=>decide ((c.toNat:Int)<p.key))=C at hR' ⊢
       (simp(disch:=first|decide|omega|(intros;exact rfl)|simp only[aa]) only[ko,g1,Pr.len,Pr.tk,Pr.tkL,Pr.at0,hc0,decide_eq_false c2,go_sem,seval,aq])
       exact hR' _ _ cG
     ·have hj2:l.take j=l:=List.take_of_length_le (by omega)
      rw[hj2];obtain⟨C,hC⟩:∃ C,C=B'++l.filter (fun(p:Pr)=>decide ((c.toNat:Int)<p.key)):=⟨_,rfl⟩
      rw[<- hC] at hz ⊢;rw[hz];have ht:List.take C.length (C.map Pr.enc)=C.map Pr.enc:=List.take_of_length_le (by simp)
      (simp(disch:=first|decide|omega|(intros;exact rfl)|simp only[aa]) only[ko,Hf,ht,go_sem,seval,aq])
      try simp[trim]
    ·(simp(disch:=first|decide|omega|(intros;exact rfl)|simp only[aa]) only[uC,Hf,hc0,hdt,hdr,decide_eq_true hdl,hm,hl2,go_sem,seval,aq])
     refine aI (m:=0) (σ:=Nat) (fun j=>l.length-j) (fun j=>j<=l.length) (fun j=>[vl (l.map Pr.enc),vs dt,V.one (.sl 0 2 0 (B'++(l.take j).filter (fun(p:Pr)=>decide ((c.toNat:Int)<p.key))).length),vi j]) (fun j=>[.arr 2 ((B'++(l.take j).filter (fun(p:Pr)=>decide ((c.toNat:Int)<p.key))).map Pr.enc) 0])
      (fun _=>Z) ?_ 0 (Nat.zero_le _) _ _ (at_head2 (by decide) (by simp only[List.map_cons,List.map_nil,go_sem,seval];exact rfl) (by simp[aN,aD,ay,aF,ax,V.ren,L.ren,Box.ren,V.refs,L.refs,Box.refs,List.append_nil]) (by simp[aN,aD,ay,aF,ax,V.ren,L.ren,Box.ren,V.refs,L.refs,Box.refs,List.append_nil]))
     intro j h1 R hR;by_cases hi:j<l.length
     ·have g1:=two j hi;have hf:=om (fun(p:Pr)=>decide ((c.toNat:Int)<p.key)) l j hi
      have hfl:=oY (fun(p:Pr)=>decide ((c.toNat:Int)<p.key)) l j
      obtain⟨p,hp⟩:∃ p,p=l[j]:=⟨_,rfl⟩;rw[<- hp] at g1 hf;by_cases c2:(c.toNat:Int)<p.key
      ·rw[if_pos (decide_eq_true c2)] at hf;have hR':=hR (j+1) (by omega) (by omega)
       rw[hf] at hR';obtain⟨C,hC⟩:∃ C,C=B'++(l.take j).filter (fun(p:Pr)=>decide ((c.toNat:Int)<p.key)):=⟨_,rfl⟩
       have hcl:C.length<=2000001:=by rw[hC,List.length_append];omega
       rw[<- List.append_assoc,<- hC] at hR';rw[<- hC];obtain⟨C',hC',hm1,hm2⟩:∃ C':List Pr,C++[p]=C'∧C.map Pr.enc++[p.enc]=C'.map Pr.enc∧C.length+1=C'.length:=⟨_,rfl,by simp,by simp⟩
       rw[hC'] at hR';(simp(disch:=first|decide|omega|(intros;exact rfl)|simp only[aa]) only[ko,g1,Pr.len,Pr.tk,Pr.tkL,Pr.at0,hc0,decide_eq_true c2,hm1,hm2,go_sem,seval,aq])
       exact hR' _ _ cG
      ·rw[if_neg (by simpa using c2),List.append_nil] at hf
       have hR':=hR (j+1) (by omega) (by omega)
       rw[hf] at hR';generalize B'++(l.take j).filter (fun(p:Pr)=>decide ((c.toNat:Int)<p.key))=C at hR' ⊢
       (simp(disch:=first|decide|omega|(intros;exact rfl)|simp only[aa]) only[ko,g1,Pr.len,Pr.tk,Pr.tkL,Pr.at0,hc0,decide_eq_false c2,go_sem,seval,aq])
       exact hR' _ _ cG
     ·have hj2:l.take j=l:=List.take_of_length_le (by omega)
      rw[hj2];obtain⟨C,hC⟩:∃ C,C=B'++l.filter (fun(p:Pr)=>decide ((c.toNat:Int)<p.key)):=⟨_,rfl⟩
      rw[<- hC] at hz ⊢;rw[hz];have ht:List.take C.length (C.map Pr.enc)=C.map Pr.enc:=List.take_of_length_le (by simp)
      (simp(disch:=first|decide|omega|(intros;exact rfl)|simp only[aa]) only[ko,Hf,ht,go_sem,seval,aq])
      try simp[trim]
def lV (p:Pr):List UInt8:=UInt8.ofNat p.key.toNat::(ah p.val.length++p.val)
def bt (l:List Pr):List UInt8:=ah l.length++l.flatMap lV
set_option maxRecDepth 4000 in
set_option maxHeartbeats 2000000 in
theorem Cu (l:List Pr) (hl:l.length<=1000000) (hb:(bt l).length<=1000000000) (hk:∀ p∈l,0<=p.key∧p.key<256):call 117 [vl (l.map Pr.enc)] []=some (vs (bt l),[]):=by
 apply ai Pf rfl;have h0:=gY l.length (by omega)
 (simp(disch:=first|decide|omega|(intros;exact rfl)|simp only[aa]) only[L0,h0,go_sem,seval,aq])
 refine aI (m:=0) (σ:=Nat) (fun i=>l.length-i) (fun i=>i<=l.length) (fun i=>[vl (l.map Pr.enc),vs (ah l.length++(l.take i).flatMap lV),vi i]) (fun _=>[])
  (fun _=>(vs (bt l),[])) ?_ 0 (Nat.zero_le _) _ _ (at_head2 (by decide) (by simp only[List.map_cons,List.map_nil,go_sem,seval];exact rfl) (by simp[aN,aD,ay,aF,ax,V.ren,L.ren,Box.ren,V.refs,L.refs,Box.refs,List.append_nil]) (by simp[aN,aD,ay,aF,ax,V.ren,L.ren,Box.ren,V.refs,L.refs,Box.refs,List.append_nil]))
 intro i h1 R hR;by_cases hi:i<l.length
 ·have g1:(l.map Pr.enc)[i]?=some l[i].enc:=by rw[List.getElem?_map,List.getElem?_eq_getElem hi];rfl
  have hnx:ah l.length++(l.take (i+1)).flatMap lV=(ah l.length++(l.take i).flatMap lV)++lV l[i]:=by
   rw[List.take_succ_eq_append_getElem hi,List.flatMap_append];simp
  have hle:((ah l.length++(l.take i).flatMap lV)++lV l[i]).length<=1000000000:=by
   rw[<- hnx];refine Nat.le_trans ?_ hb;have e:l.flatMap lV=(l.take (i+1)).flatMap lV++(l.drop (i+1)).flatMap lV:=by rw[<- List.flatMap_append,List.take_append_drop]
   rw[bt,e];simp;try omega
  have hR':=hR (i+1) (by omega) (by omega)
  rw[hnx] at hR';obtain⟨p,hp⟩:∃ p,p=l[i]:=⟨_,rfl⟩;rw[<- hp] at g1 hle hR';obtain⟨S,hS⟩:∃ S,S=ah l.length++(l.take i).flatMap lV:=⟨_,rfl⟩;rw[<- hS] at hle hR' ⊢;have hpb:(lV p).length=1+(ah p.val.length).length+p.val.length:=by simp[lV];omega
  rw[List.length_append] at hle;have hput:=gY p.val.length (by omega)
  have hbo:fp [[.i .u8 p.key]]=some [UInt8.ofNat p.key.toNat]:=rfl;rw[show S++lV p=((S++[UInt8.ofNat p.key.toNat])++ah p.val.length)++p.val by simp[lV]] at hR'
  rw[hpb] at hle;obtain⟨E,hE⟩:∃ E,E=ah p.val.length:=⟨_,rfl⟩;rw[<- hE] at hR' hput hle;have q1:(S++[UInt8.ofNat p.key.toNat]).length=S.length+1:=by simp
  have q2:((S++[UInt8.ofNat p.key.toNat])++E).length=S.length+1+E.length:=by simp;omega
  obtain⟨S1,hS1⟩:∃ S1,S1=S++[UInt8.ofNat p.key.toNat]:=⟨_,rfl⟩;rw[<- hS1] at q1 q2 hR';obtain⟨S2,hS2⟩:∃ S2,S2=S1++E:=⟨_,rfl⟩;rw[<- hS2] at q2 hR';(simp(disch:=first|decide|omega|(intros;exact rfl)|simp only[aa]) only[Am,g1,Pr.len,Pr.tk,Pr.tkL,Pr.at0,Pr.at1,hbo,hput,<- hS1,<- hS2,go_sem,seval,aq,cw,A.kind,A.xs,aP,A.isN])
  exact hR' _ _ cG
 ·have ht:l.take i=l:=List.take_of_length_le (by omega)
  rw[ht];(simp(disch:=first|decide|omega|(intros;exact rfl)|simp only[aa]) only[Am,L0,go_sem,seval,aq,cw,A.kind,A.xs,aP,A.isN])
  try simp[trim,bt]
structure SZ (seg:Int) (M:List SR) (g:Seg):Prop where
 old:∀ p∈M,seg<=p.1.size∧p.1.size<=seg+90
 last:g.size<=seg+90
def Hold (f seg:Int) (s:Sto) (R:List Rec):Prop:=∃ M g l,Inv f s M g l∧SZ seg M g∧aY (M++[(g,l)])=R
theorem Hold.next {f seg:Int} {s:Sto} {R:List Rec} (h:Hold f seg s R):s.next=f+R.length:=by
 obtain⟨M,g,l,hi,_,rfl⟩:=h;have:=iQ _ _ _ hi.chain;rw[cZ,dM,List.length_append,hi.next];simp only[];omega
theorem Hold.sure {f seg:Int} {s:Sto} {R:List Rec} (h:Hold f seg s R):0<=s.sure∧s.sure<=s.next:=by
 obtain⟨M,g,l,hi,_,rfl⟩:=h;exact hi.sure
theorem Cs {k u:Nat} {s:Sto} (ho:okS k u s) (h:s.sure<=s.next):s.sure<=(bN s).1.sure:=by
 have:=CI ho h;unfold bN;split
 ·exact Int.le_refl _
 ·split
  ·exact this
  ·split <;> exact this
theorem Hold.floor {f seg:Int} {s:Sto} {R:List Rec} (h:Hold f seg s R):s.floor=f:=by
 obtain⟨M,g,l,hi,_,rfl⟩:=h;unfold Sto.floor;rw[hi.segs];cases hM:M with
 | nil=>have:=hi.chain;rw[hM] at this;simp only[chainM] at this;simp[this]
 | cons q M'=>have:=hi.chain;rw[hM] at this;simp[this.1]
theorem ql (s:Txt):call 20 [vs s] []=some (vb (dE s),[]):=by
 apply ai Qt rfl;unfold dE;cases s with
 | nil=>(simp(disch:=first|decide|omega|(intros;exact rfl)|simp only[aa]) only[NC,go_sem,seval,aq]);try rfl
 | cons a r =>
  have h1:(1:Int)<=((a::r).length:Nat):=by simp;omega
  generalize hq:(a::r)=q at *;have h2:q≠[]:=by rw[<- hq];simp
  by_cases c:q.length<=32
  ·(simp(disch:=first|decide|omega|(intros;exact rfl)|simp only[aa]) only[NC,h1,c,go_sem,seval,aq])
   simp[h2]
  ·(simp(disch:=first|decide|omega|(intros;exact rfl)|simp only[aa]) only[NC,h1,c,go_sem,seval,aq])
   simp[h2]
def nv (l:List Fil) (n:Txt):Int:=if bz l n=true then(aw l n:Nat) else -1
theorem qu {l:List Fil} (hs:srt l) (n:Txt) (i:Nat) (h:i<l.length):l[i].name=n↔(bz l n=true∧i=aw l n):=by
 constructor
 ·rintro rfl;exact⟨yX hs (List.getElem_mem h),(Hq hs i h).symm⟩
 ·rintro⟨h1,rfl⟩;obtain⟨hp,he⟩:=bL h1;exact he
theorem fK (d:Dsk) (hl:d.files.length<=1000000) (hs:srt d.files) (n:Txt):call 60 [.agg d.l,vs n] []=some (vi (nv d.files n),[]):=by
 apply ai QT rfl;obtain⟨fl,cp,ar,lf,dn⟩:=d;simp only at hl hs ⊢;obtain⟨Z,hZ⟩:∃ Z:V,Z=vi (nv fl n):=⟨_,rfl⟩;rw[<- hZ];(simp(disch:=first|decide|omega|(intros;exact rfl)|simp only[aa]) only[PD,Dsk.l,go_sem,seval,aq])
 refine aI (m:=0) (σ:=Nat) (fun i=>fl.length-i) (fun i=>i<=fl.length∧(bz fl n=true->i<=aw fl n)) (fun i=>[vs n,V.one (.p 0 0),vi i])
  (fun _=>[.cells [.d (.l (fl.map Fil.enc)),.d (.i .i64 cp),.d (.b ar),.d (.i .i64 lf),.d (.b dn)]]) (fun _=>(Z,[])) ?_ 0 ⟨Nat.zero_le _,fun _=>Nat.zero_le _⟩ _ _ ?_
 rotate_left
 ·exact cG
 rintro i ⟨hi,hp⟩ R hR;by_cases c:i<fl.length
 ·have g1:(fl.map Fil.enc)[i]?=some fl[i].enc:=by simp[c]
  have hk:=qu hs n i c;by_cases c2:fl[i].name=n
  ·have e:(fl[i].name == n)=true:=by rw[c2];exact beq_self_eq_true _
   obtain⟨h1,h2⟩:=hk.1 c2;have hz:nv fl n=i:=by unfold nv;rw[if_pos h1,<- h2]
   rw[hz] at hZ;(simp(disch:=first|decide|omega|(intros;exact rfl)|simp only[aa]) only[BN,c,g1,Fil.len,Fil.at0,e,go_sem,seval,aq])
   rw[hZ];try simp[trim]
  ·have e:(fl[i].name == n)=false:=by rw[beq_eq_false_iff_ne];exact c2
   (simp(disch:=first|decide|omega|(intros;exact rfl)|simp only[aa]) only[BN,c,g1,Fil.len,Fil.at0,e,go_sem,seval,aq])
   exact hR (i+1) (by omega) ⟨by omega,fun h=>by
    have:=hp h;rcases Nat.lt_or_ge i (aw fl n) with h3|h3
    ·omega
    ·exact absurd (hk.2 ⟨h,by omega⟩) c2⟩ _ _ cG
 ·have hz:nv fl n = -1:=by
   unfold nv;rw[if_neg];intro h;obtain⟨h1,_⟩:=bL h;have:=hp h;omega
  rw[hz] at hZ;(simp(disch:=first|decide|omega|(intros;exact rfl)|simp only[aa]) only[BN,c,go_sem,seval,aq])
  rw[hZ];try simp[trim]
theorem y8 (d:Dsk) (hl:d.files.length<=1000000) (hu:usedF d.files<=1000000000000):call 83 [.agg d.l] []=some (vi (usedF d.files:Nat),[]):=by
 apply ai QJ rfl;obtain⟨fl,cp,ar,lf,dn⟩:=d;simp only at hl hu ⊢;(simp(disch:=first|decide|omega|(intros;exact rfl)|simp only[aa]) only[Ps,Dsk.l,go_sem,seval,aq])
 refine aI (m:=0) (σ:=Nat) (fun i=>fl.length-i) (fun i=>i<=fl.length) (fun i=>[V.one (.p 0 0),vi (usedF (fl.take i):Nat),vi i])
  (fun _=>[.cells [.d (.l (fl.map Fil.enc)),.d (.i .i64 cp),.d (.b ar),.d (.i .i64 lf),.d (.b dn)]]) (fun _=>(vi (usedF fl:Nat),[])) ?_ 0 (Nat.zero_le _) _ _ ?_
 rotate_left
 ·exact cG
 intro i hi R hR;by_cases c:i<fl.length
 ·have g1:(fl.map Fil.enc)[i]?=some fl[i].enc:=by simp[c]
  have hK:=hR (i+1) (by omega) (by omega)
  have e1:usedF (fl.take (i+1))=usedF (fl.take i)+fl[i].data.length:=by rw[List.take_succ_eq_append_getElem c,cu,gk]
  have h2:=mr fl (i+1);rw[e1] at hK h2;have e2:((usedF (fl.take i)+fl[i].data.length:Nat):Int)=(usedF (fl.take i):Int)+(fl[i].data.length:Int):=by omega
  rw[e2] at hK;(simp(disch:=first|decide|omega|(intros;exact rfl)|simp only[aa]) only[GN,c,g1,Fil.len,Fil.at1,go_sem,seval,aq])
  exact hK _ _ cG
 ·have e:fl.take i=fl:=List.take_of_length_le (by omega)
  rw[e];(simp(disch:=first|decide|omega|(intros;exact rfl)|simp only[aa]) only[GN,c,go_sem,seval,aq])
  try simp[trim]
def nW (l:List Fil) (n:Txt):List Fil:=l.filter fun f=>decide (f.name≠n)
def JS (l:List Fil) (f:Fil):List Fil:=gC (nW l f.name) (aw (nW l f.name) f.name) f
theorem BJ (l:List Fil) (n:Txt):(nW l n).length<=l.length:=List.length_filter_le _ _
theorem I2 {l:List Fil} (hs:srt l) (n:Txt):srt (nW l n):=List.Pairwise.filter _ hs
theorem kQ (l:List Fil) (hl:l.length<=1000000) (n:Txt):call 115 [vl (l.map Fil.enc),vs n] []=some (vl ((nW l n).map Fil.enc),[]):=by
 apply ai O3 rfl;obtain⟨Z,hZ⟩:∃ Z:V,Z=vl ((nW l n).map Fil.enc):=⟨_,rfl⟩;rw[<- hZ];(simp(disch:=first|decide|omega|(intros;exact rfl)|simp only[aa]) only[MS,go_sem,seval,aq])
 refine aI (m:=0) (σ:=Nat) (fun i=>l.length-i) (fun i=>i<=l.length) (fun i=>[vl (l.map Fil.enc),vs n,V.one (.sl 0 3 0 (nW (l.take i) n).length),vi i])
  (fun i=>[.arr 3 ((nW (l.take i) n).map Fil.enc) 0]) (fun _=>(Z,[])) ?_ 0 (Nat.zero_le _) _ _ ?_
 rotate_left
 ·exact cG
 intro i hi R hR;have hln:((nW (l.take i) n).map Fil.enc).length=(nW (l.take i) n).length:=by simp
 have hle:(nW (l.take i) n).length<=1000000:=Nat.le_trans (BJ _ _) (by simp;omega)
 by_cases c:i<l.length
 ·have g1:(l.map Fil.enc)[i]?=some l[i].enc:=by simp[c]
  have hK:=hR (i+1) (by omega) (by omega)
  by_cases c2:l[i].name=n
  ·have e:(l[i].name == n)=true:=by rw[c2];exact beq_self_eq_true _
   have e1:nW (l.take (i+1)) n=nW (l.take i) n:=by
    rw[List.take_succ_eq_append_getElem c];unfold nW;rw[List.filter_append];simp[c2]
   rw[e1] at hK;(simp(disch:=first|decide|omega|(intros;exact rfl)|simp only[aa]) only[vf,c,g1,Fil.len,Fil.at0,e,go_sem,seval,aq])
   exact hK _ _ cG
  ·have e:(l[i].name == n)=false:=by rw[beq_eq_false_iff_ne];exact c2
   have e1:nW (l.take (i+1)) n=nW (l.take i) n++[l[i]]:=by
    rw[List.take_succ_eq_append_getElem c];unfold nW;rw[List.filter_append];simp[c2]
   rw[e1,List.map_append,List.length_append,List.length_singleton] at hK;generalize (nW (l.take i) n).map Fil.enc=Q at *;generalize (nW (l.take i) n).length=q at *;generalize l[i]=f at *;obtain⟨fn,fd,fs⟩:=f;simp only[Fil.enc,List.map_cons,List.map_nil] at g1 e hK;(simp(disch:=first|decide|omega|(intros;exact rfl)|simp only[aa]) only[vf,c,g1,e,hln,go_sem,seval,aq])
   exact hK _ _ cG
 ·have e:l.take i=l:=List.take_of_length_le (by omega)
  rw[e] at hln hle ⊢;have ht:((nW l n).map Fil.enc).take (nW l n).length=(nW l n).map Fil.enc:=List.take_of_length_le (by omega)
  generalize (nW l n).map Fil.enc=Q at *;generalize (nW l n).length=q at *;(simp(disch:=first|decide|omega|(intros;exact rfl)|simp only[aa]) only[vf,c,hln,ht,go_sem,seval,aq])
  rw[hZ];try simp[trim]
set_option maxRecDepth 8000 in
theorem mI (l:List Fil) (hl:l.length<=1000000) (hs:srt l) (f:Fil):call 71 [vl (l.map Fil.enc),.agg (f.enc.map .d)] []=some (vl ((JS l f).map Fil.enc),[]):=by
 have q1:=kQ l hl f.name;have hml:=BJ l f.name;have hms:=I2 hs f.name;apply ai Qo rfl;unfold JS;generalize nW l f.name=m at *;have hpi:=iE hms f.name;have hple:=nK m f.name;have hin:(gC m (aw m f.name) f).map Fil.enc=(m.map Fil.enc).take (aw m f.name)++[f.enc]++(m.map Fil.enc).drop (aw m f.name):=by
  rw[<- wI];simp
 rw[hin];generalize hpp:aw m f.name=pp at *;obtain⟨fn,fd,fs⟩:=f;simp only[Fil.enc,List.map_cons,List.map_nil] at *;(simp(disch:=first|decide|omega|(intros;exact rfl)|simp only[aa]) only[PX,q1,go_sem,seval,aq])
 refine aI (m:=0) (σ:=Nat) (fun i=>pp-i) (fun i=>i<=pp) (fun i=>[vl (m.map Fil.enc),V.one (.p 0 0),vi i])
  (fun _=>[.cells [.d (.s fn),.d (.s fd),.d (.i .i64 fs)]]) (fun _=>(vl ((m.map Fil.enc).take pp++[[.s fn,.s fd,.i .i64 fs]]++(m.map Fil.enc).drop pp),[])) ?_ 0 (Nat.zero_le _) _ _ ?_
 rotate_left
 ·exact cG
 intro i hi R hR;have hend:i=pp->∀ (b:Bool),True:=fun _ _=>trivial
 by_cases c:i<m.length
 ·have g1:(m.map Fil.enc)[i]?=some m[i].enc:=by simp[c]
  have hb:=hpi i c;by_cases c2:i<pp
  ·have e:Op.bytesLess m[i].name fn=true:=hb.2 c2;(simp(disch:=first|decide|omega|(intros;exact rfl)|simp only[aa]) only[Bm,c,g1,Fil.len,Fil.at0,e,go_sem,seval,aq])
   exact hR (i+1) (by omega) (by omega) _ _ cG
  ·have e:Op.bytesLess m[i].name fn=false:=by
    cases h:Op.bytesLess m[i].name fn with
    | true=>exact absurd (hb.1 h) c2
    | false=>rfl
   have hip:i=pp:=by omega
   subst hip;have hb1:=u6 (n:=m.length) (k:=i) (by omega)
   have hb2:=uO (n:=m.length) (k:=i) (by omega)
   have hok:bf 3 (m.map Fil.enc)=true:=bH Fil.len m;have hok1:bf 3 ((m.map Fil.enc).take i)=true:=by rw[<- List.map_take];exact bH Fil.len _
   have hok2:bf 3 ((m.map Fil.enc).drop i)=true:=by rw[<- List.map_drop];exact bH Fil.len _
   have htk:(m.map Fil.enc).take m.length=m.map Fil.enc:=List.take_of_length_le (by simp)
   have hmm:(m.map Fil.enc).length=m.length:=by simp
   generalize m.map Fil.enc=MQ at *;obtain⟨Q1,hQ1⟩:∃ Q1,MQ.take i=Q1:=⟨_,rfl⟩;obtain⟨Q2,hQ2⟩:∃ Q2,MQ.drop i=Q2:=⟨_,rfl⟩;have hq1:Q1.length<=1000000:=by rw[<- hQ1,List.length_take];omega
   have hq2:Q2.length<=1000000:=by rw[<- hQ2,List.length_drop];omega
   rw[hQ1] at hok1 ⊢;rw[hQ2] at hok2 ⊢;(simp(disch:=first|decide|omega|(intros;exact rfl)|simp only[aa]) only[aS,Bm,c,g1,Fil.len,Fil.at0,e,hb1,hb2,hok,hok1,hok2,htk,hmm,hQ1,hQ2,go_sem,seval,aq,cw,A.kind,A.xs,aP,A.isN])
   simp[trim,V.refs,L.refs,Box.refs];exact List.take_of_length_le (by simp;omega)
 ·have hip:i=pp:=by omega
  subst hip;have him:i=m.length:=by omega
  have hb1:=u6 (n:=m.length) (k:=i) (by omega)
  have hb2:=uO (n:=m.length) (k:=i) (by omega)
  have hok:bf 3 (m.map Fil.enc)=true:=bH Fil.len m;have hok1:bf 3 ((m.map Fil.enc).take i)=true:=by rw[<- List.map_take];exact bH Fil.len _
  have hok2:bf 3 ((m.map Fil.enc).drop i)=true:=by rw[<- List.map_drop];exact bH Fil.len _
  have htk:(m.map Fil.enc).take m.length=m.map Fil.enc:=List.take_of_length_le (by simp)
  have hmm:(m.map Fil.enc).length=m.length:=by simp
  generalize m.map Fil.enc=MQ at *;obtain⟨Q1,hQ1⟩:∃ Q1,MQ.take i=Q1:=⟨_,rfl⟩;obtain⟨Q2,hQ2⟩:∃ Q2,MQ.drop i=Q2:=⟨_,rfl⟩;have hq1:Q1.length<=1000000:=by rw[<- hQ1,List.length_take];omega
  have hq2:Q2.length<=1000000:=by rw[<- hQ2,List.length_drop];omega
  rw[hQ1] at hok1 ⊢;rw[hQ2] at hok2 ⊢;(simp(disch:=first|decide|omega|(intros;exact rfl)|simp only[aa]) only[aS,Bm,c,hb1,hb2,hok,hok1,hok2,htk,hmm,hQ1,hQ2,go_sem,seval,aq,cw,A.kind,A.xs,aP,A.isN])
  simp[trim,V.refs,L.refs,Box.refs];exact List.take_of_length_le (by simp;omega)
end Go.Proofs.YtghfhomfppbooaaGreat
