import Derived.Test.YtghfhomfppbooaaGreatT03
import Derived.Test.YtghfhomfppbooaaGreatT02
set_option linter.unusedSimpArgs false
set_option linter.unusedVariables false
namespace Go.Proofs.YtghfhomfppbooaaGreat
open Go.Vi
theorem sunless_spec (s:Dsk × Int) (hd:s.1.ok) (n:Txt):call 97 [.one (.p 0 0),vs n] [stB s]=some (.tup [],[stB (unlS n s)]):=by
 apply enterS s97 rfl;obtain⟨d,e⟩:=s;unfold unlS;simp only at hd ⊢;by_cases h9:e=9
 ·subst h9;have h:callIso call 94 [.one (.p 0 0),vs n] [stB (d,0)]=some (.tup [],[stB (delS n (d,0))]) :=
   iso_at (ids:=[0]) rfl rfl rfl (sremove_spec (d,0) hd n) rfl
  generalize delS n (d,0)=r at *;obtain⟨⟨f2,cp2,ar2,lf2,dn2⟩,e2⟩:=r;obtain⟨fl,cp,ar,lf,dn⟩:=d;simp only[stB,Dsk.l,List.cons_append,List.nil_append] at h;by_cases h0:e2=0
  ·subst h0;(simp(disch:=first|decide|omega|(intros;exact Eq.trans rfl rfl)|simp only[puri]) only[wkf,a97,stB,Dsk.l,↓h,go_sem,seval,dis])
   simp[trim,V.refs,L.refs,Box.refs]
  ·(simp(disch:=first|decide|omega|(intros;exact Eq.trans rfl rfl)|simp only[puri]) only[wkf,a97,stB,Dsk.l,↓h,h0,go_sem,seval,dis])
   simp[trim,V.refs,L.refs,Box.refs,h0]
 ·obtain⟨fl,cp,ar,lf,dn⟩:=d;(simp(disch:=first|decide|omega|(intros;exact Eq.trans rfl rfl)|simp only[puri]) only[wkf,a97,stB,Dsk.l,h9,go_sem,seval,dis])
  simp[trim,V.refs,L.refs,Box.refs,h9]
def swapS (m:Man) (s:Dsk × Int):Dsk × Int :=
 let s1:=if s.2=0 then(s.1,(manPut m).2) else s
 let s2:=if(readF s1.1.files [110]).2=0 then delS [110] s1 else s1
 let s3:=crtS [110] s2
 if s3.2≠0 then s3 else renS [110] [109] (synS [110] (unlS [110] (appS [110] (manPut m).1 s3)))
theorem manPut_len (m:Man):(manPut m).1.length<=800:=by
 unfold manPut;split
 ·rename_i h;have:=manBody_len h;unfold manText;have h9:=nd_le9 (n:=(manBody m).length) (by omega)
  show(frameF (manBody m)).length<=800;rw[frameF_len];omega
 ·simp
theorem swap_okN {k u:Nat} {s:Dsk × Int} (h:okN k u s.1) (m:Man):okN (k+1) (u+800) (swapS m s).1:=by
 unfold swapS;have h1:okN k u (if s.2=0 then(s.1,(manPut m).2) else s).1:=by split <;> exact h
 generalize (if s.2=0 then(s.1,(manPut m).2) else s)=s1 at *
 have h2:okN k u (if(readF s1.1.files [110]).2=0 then delS [110] s1 else s1).1:=by
  split
  ·exact del_okN h1 _
  ·exact h1
 simp only[];generalize (if(readF s1.1.files [110]).2=0 then delS [110] s1 else s1)=s2 at *
 have h3:=crt_ok h2 [110];split
 ·exact h3.up (Nat.le_refl _) (by omega)
 ·exact ren_ok (syn_ok (unl_ok ((app_ok h3 [110] (manPut m).1).up (Nat.le_refl _) (by have:=manPut_len m;omega)) _) _) _ _
theorem swap_tail (d:Dsk) (e:Int) (te:Int) (tx:Txt) {k u:Nat} (hd:okN k u d) (hk:k<=900000) (hu:u<=900000000000) (htx:tx.length<=800) (ver size sum:Int) (segs:List Int)
  (hp:call 93 [.agg [.d (.i .i64 ver),.d (.l (segs.map eI)),.d (.i .i64 size),.d (.i .u32 sum)]] []=some (.tup [(false,[.d (.s tx)]),(false,[.d (.i .i64 te)])],[]))
  (s1:Dsk × Int) (hs1:s1=(if e=0 then(d,te) else(d,e))) (s2:Dsk × Int) (hs2:s2=(if(readF s1.1.files [110]).2=0 then delS [110] s1 else s1)) :
  call 53 [.one (.p 0 0),.agg [.d (.i .i64 ver),.d (.l (segs.map eI)),.d (.i .i64 size),.d (.i .u32 sum)]] [stB (d,e)] =
   some (.tup [],[stB (if(crtS [110] s2).2≠0 then crtS [110] s2 else renS [110] [109] (synS [110] (unlS [110] (appS [110] tx (crtS [110] s2)))))]):=by
 have k1:okN k u s1.1:=by rw[hs1];split <;> exact hd
 have k2:okN k u s2.1:=by
  rw[hs2];split
  ·exact del_okN k1 _
  ·exact k1
 have k3:=crt_ok k2 [110];obtain⟨s3,hs3⟩:∃ s3,s3=crtS [110] s2:=⟨_,rfl⟩;have k4:=app_ok k3 [110] tx;rw[<- hs3] at k3 k4 ⊢;obtain⟨s4,hs4⟩:∃ s4,s4=appS [110] tx s3:=⟨_,rfl⟩;rw[<- hs4] at k4 ⊢;have k5:=unl_ok k4 [110];obtain⟨s5,hs5⟩:∃ s5,s5=unlS [110] s4:=⟨_,rfl⟩;rw[<- hs5] at k5 ⊢;have k6:=syn_ok k5 [110];obtain⟨s6,hs6⟩:∃ s6,s6=synS [110] s5:=⟨_,rfl⟩;rw[<- hs6] at k6 ⊢;obtain⟨s7,hs7⟩:∃ s7,s7=renS [110] [109] s6:=⟨_,rfl⟩;rw[<- hs7];have hr:=read_disk s1.1 (Nat.le_trans k1.len (by omega)) k1.srt [110]
 have q1:∀ M T:Box,callIso call 94 [.one (.p 0 0),vs [110]] [stB s1,M,T]=some (.tup [],[stB (delS [110] s1),M,T]):=fun M T=>iso_at (ids:=[0]) rfl rfl rfl (sremove_spec s1 (k1.ok (by omega) (by omega)) _) rfl
 have q2:∀ M T:Box,callIso call 51 [.one (.p 0 0),vs [110]] [stB s2,M,T]=some (.tup [],[stB s3,M,T]):=fun M T=>by rw[hs3];exact iso_at (ids:=[0]) rfl rfl rfl (screate_spec s2 (k2.ok (by omega) (by omega)) _) rfl
 have q3:∀ M:Box,callIso call 89 [.one (.p 0 0),.one (.f 95 [2])] [stB s3,M,.cells [.d (.s tx)]]=some (.tup [],[stB s4,M,.cells [.d (.s tx)]]):=fun M=>by
  rw[hs4];exact iso_at (ids:=[0,2]) rfl rfl rfl (do1 s3 _ tx _ fun _=>swapC1 s3.1 (k3.ok (by omega) (by omega)) tx (by omega)) rfl
 have q4:∀ M T:Box,callIso call 97 [.one (.p 0 0),vs [110]] [stB s4,M,T]=some (.tup [],[stB s5,M,T]):=fun M T=>by rw[hs5];exact iso_at (ids:=[0]) rfl rfl rfl (sunless_spec s4 (k4.ok (by omega) (by omega)) _) rfl
 have q5:∀ M T:Box,callIso call 98 [.one (.p 0 0),vs [110]] [stB s5,M,T]=some (.tup [],[stB s6,M,T]):=fun M T=>by rw[hs6];exact iso_at (ids:=[0]) rfl rfl rfl (ssync_spec s5 (k5.ok (by omega) (by omega)) _) rfl
 have q6:∀ M T:Box,callIso call 89 [.one (.p 0 0),.one (.f 99 [])] [stB s6,M,T]=some (.tup [],[stB s7,M,T]):=fun M T=>by
  rw[hs7];exact iso_at (ids:=[0]) rfl rfl rfl (do0 s6 _ _ fun _=>swapC2 s6.1 (k6.ok (by omega) (by omega))) rfl
 clear hs3 hs4 hs5 hs6 hs7 k2 k3 k4 k5 k6;obtain⟨d3,e3⟩:=s3;apply enterS s53 rfl;by_cases he:e=0
 ·rw[if_pos he] at hs1;subst hs1;subst he;by_cases hrd:(readF d.files [110]).2=0
  ·simp only[] at hs2 hr;rw[if_pos hrd] at hs2;rw[<- hs2] at q1;rw[hrd] at hr;simp only[stB,Dsk.l,List.cons_append,List.nil_append] at hr q1 q2 q3 q4 q5 q6;by_cases h3:e3=0
   ·subst h3;(simp(disch:=first|decide|omega|(intros;exact Eq.trans rfl rfl)|simp only[puri]) only[wkf,a53,stB,Dsk.l,hp,hr,↓q1,↓q2,↓q3,↓q4,↓q5,↓q6,go_sem,seval,dis])
    try simp[trim,V.refs,L.refs,Box.refs,stB,Dsk.l]
   ·(simp(disch:=first|decide|omega|(intros;exact Eq.trans rfl rfl)|simp only[puri]) only[wkf,a53,stB,Dsk.l,hp,hr,↓q1,↓q2,↓q3,↓q4,↓q5,↓q6,h3,go_sem,seval,dis])
    try simp[trim,V.refs,L.refs,Box.refs,stB,Dsk.l,h3]
  ·simp only[] at hs2 hr;rw[if_neg hrd] at hs2;subst hs2;simp only[stB,Dsk.l,List.cons_append,List.nil_append] at hr q1 q2 q3 q4 q5 q6;by_cases h3:e3=0
   ·subst h3;(simp(disch:=first|decide|omega|(intros;exact Eq.trans rfl rfl)|simp only[puri]) only[wkf,a53,stB,Dsk.l,hp,hr,hrd,↓q2,↓q3,↓q4,↓q5,↓q6,go_sem,seval,dis])
    try simp[trim,V.refs,L.refs,Box.refs,stB,Dsk.l]
   ·(simp(disch:=first|decide|omega|(intros;exact Eq.trans rfl rfl)|simp only[puri]) only[wkf,a53,stB,Dsk.l,hp,hr,hrd,↓q2,↓q3,↓q4,↓q5,↓q6,h3,go_sem,seval,dis])
    try simp[trim,V.refs,L.refs,Box.refs,stB,Dsk.l,h3]
 ·rw[if_neg he] at hs1;subst hs1;by_cases hrd:(readF d.files [110]).2=0
  ·simp only[] at hs2 hr;rw[if_pos hrd] at hs2;rw[<- hs2] at q1;rw[hrd] at hr;simp only[stB,Dsk.l,List.cons_append,List.nil_append] at hr q1 q2 q3 q4 q5 q6;by_cases h3:e3=0
   ·subst h3;(simp(disch:=first|decide|omega|(intros;exact Eq.trans rfl rfl)|simp only[puri]) only[wkf,a53,stB,Dsk.l,hp,hr,↓q1,↓q2,↓q3,↓q4,↓q5,↓q6,go_sem,seval,dis])
    try simp[trim,V.refs,L.refs,Box.refs,stB,Dsk.l]
   ·(simp(disch:=first|decide|omega|(intros;exact Eq.trans rfl rfl)|simp only[puri]) only[wkf,a53,stB,Dsk.l,hp,hr,↓q1,↓q2,↓q3,↓q4,↓q5,↓q6,h3,go_sem,seval,dis])
    try simp[trim,V.refs,L.refs,Box.refs,stB,Dsk.l,h3]
  ·simp only[] at hs2 hr;rw[if_neg hrd] at hs2;subst hs2;simp only[stB,Dsk.l,List.cons_append,List.nil_append] at hr q1 q2 q3 q4 q5 q6;by_cases h3:e3=0
   ·subst h3;(simp(disch:=first|decide|omega|(intros;exact Eq.trans rfl rfl)|simp only[puri]) only[wkf,a53,stB,Dsk.l,hp,hr,hrd,↓q2,↓q3,↓q4,↓q5,↓q6,go_sem,seval,dis])
    try simp[trim,V.refs,L.refs,Box.refs,stB,Dsk.l]
   ·(simp(disch:=first|decide|omega|(intros;exact Eq.trans rfl rfl)|simp only[puri]) only[wkf,a53,stB,Dsk.l,hp,hr,hrd,↓q2,↓q3,↓q4,↓q5,↓q6,h3,go_sem,seval,dis])
    try simp[trim,V.refs,L.refs,Box.refs,stB,Dsk.l,h3]
theorem sswap_spec (s:Dsk × Int) {k u:Nat} (hd:okN k u s.1) (hk:k<=900000) (hu:u<=900000000000) (m:Man) (hm:m.ok):call 53 [.one (.p 0 0),.agg m.l] [stB s]=some (.tup [],[stB (swapS m s)]):=by
 have hp:=manPut_spec m hm;have hpl:=manPut_len m;obtain⟨d,e⟩:=s;have h:=swap_tail d e (manPut m).2 (manPut m).1 hd hk hu hpl m.ver m.size m.sum m.segs hp _ rfl _ rfl;exact h
structure Seg where
 base:Int
 n:Int
 size:Int
 deriving DecidableEq
def Seg.enc (e:Seg):List D:=[.i .i64 e.base,.i .i64 e.n,.i .i64 e.size]
theorem Seg.len (e:Seg):e.enc.length=3:=Eq.trans rfl rfl
theorem Seg.tk (e:Seg):e.enc.take 3=e.enc:=Eq.trans rfl rfl
theorem Seg.tkL (e:Seg):(e.enc.map L.d).take 3=e.enc.map L.d:=Eq.trans rfl rfl
theorem Seg.dat (e:Seg):dataLs (e.enc.map L.d)=some (e.enc.map L.d):=Eq.trans rfl rfl
theorem Seg.rfs (e:Seg):(e.enc.map L.d).flatMap L.refs=[]:=Eq.trans rfl rfl
theorem Seg.rn (e:Seg) (g:Nat->Option Nat):(e.enc.map L.d).map (L.ren g)=e.enc.map L.d:=Eq.trans rfl rfl
theorem Seg.lenL (e:Seg):(e.enc.map L.d).length=3:=Eq.trans rfl rfl
theorem Seg.at0 (e:Seg):e.enc[0]?=some (.i .i64 e.base):=Eq.trans rfl rfl
theorem Seg.fd0 (e:Seg):(e.enc.map L.d)[0]?=some (.d (.i .i64 e.base)):=Eq.trans rfl rfl
theorem Seg.at1 (e:Seg):(e.enc.drop 1)[0]?=some (.i .i64 e.n):=Eq.trans rfl rfl
theorem Seg.fd1 (e:Seg):(e.enc.map L.d)[1]?=some (.d (.i .i64 e.n)):=Eq.trans rfl rfl
theorem Seg.at2 (e:Seg):(e.enc.drop 2)[0]?=some (.i .i64 e.size):=Eq.trans rfl rfl
theorem Seg.fd2 (e:Seg):(e.enc.map L.d)[2]?=some (.d (.i .i64 e.size)):=Eq.trans rfl rfl
theorem Seg.up1 (e:Seg) (x:Int):e.enc.take 1++[.i .i64 x]++e.enc.drop 2=({ e with n:=x }:Seg).enc:=Eq.trans rfl rfl
theorem Seg.up2 (e:Seg) (x:Int):e.enc.take 2++[.i .i64 x]++e.enc.drop 3=({ e with size:=x }:Seg).enc:=Eq.trans rfl rfl
def Seg.ok (e:Seg):Prop:=(-9223372036854775808<=e.base∧e.base<9223372036854775808)∧(-9223372036854775808<=e.n∧e.n<9223372036854775808)∧(-9223372036854775808<=e.size∧e.size<9223372036854775808)
def Seg.ty:List Ty:=[.i .i64,.i .i64,.i .i64]
theorem Seg.eqs (a b:Seg):scEqs [0,0,0] (a.enc.map L.d) (b.enc.map L.d)=some (decide (a=b)):=by
 cases a;cases b;simp only[Seg.enc,List.map_cons,List.map_nil,scEqs,scEq,if_true,Seg.mk.injEq];congr 1
 rw[Bool.eq_iff_iff];simp only[Bool.and_eq_true,beq_iff_eq,decide_eq_true_eq,and_true]
theorem Seg.of (r:List D) (h:wfRow Seg.ty r):∃ e:Seg,r=e.enc∧e.ok:=by
 simp only[Seg.ty,wfRow,wfT] at h;obtain⟨_,_,rfl,⟨x0,rfl,h0,g0⟩,⟨_,_,rfl,⟨x1,rfl,h1,g1⟩,⟨_,_,rfl,⟨x2,rfl,h2,g2⟩,rfl⟩⟩⟩:=h;refine⟨⟨x0,x1,x2⟩,rfl,?_⟩;exact⟨⟨Int.le_trans (by decide) h0,Int.lt_of_le_of_lt g0 (by decide)⟩,⟨Int.le_trans (by decide) h1,Int.lt_of_le_of_lt g1 (by decide)⟩,⟨Int.le_trans (by decide) h2,Int.lt_of_le_of_lt g2 (by decide)⟩⟩
structure Sto where
 disk:Dsk
 ver:Int
 segs:List Seg
 next:Int
 sure:Int
 size:Int
 sum:Int
def Sto.l (s:Sto):List L:=s.disk.l++[.d (.i .i64 s.ver),.d (.l (s.segs.map Seg.enc)),.d (.i .i64 s.next),.d (.i .i64 s.sure),.d (.i .i64 s.size),.d (.i .u32 s.sum)]
def Sto.man (s:Sto):Man:=⟨s.ver,s.segs.map Seg.base,s.size,s.sum⟩
def stoV (r:Sto × Int):V:=.tup [(true,r.1.l),(false,[.d (.i .i64 r.2)])]
def hldF:List Seg->Int->Nat->Seg->Seg
 | l,off,0,z=>l.headD z
 | l,off,k+1,z=>match l[k+1]? with|some g=>if g.base > off then hldF l off k z else g|none=>z
def Sto.hld (s:Sto) (off:Int):Seg:=hldF s.segs off (s.segs.length-1) ⟨0,0,0⟩
structure okS (k u:Nat) (s:Sto):Prop where
 dsk:okN k u s.disk
 len:1<=s.segs.length∧s.segs.length<=64
 seg:∀ g∈s.segs,(0<=g.base∧g.base<=1099511627776)∧(0<=g.n∧g.n<=u)∧(0<=g.size∧g.size<=u)
 next:0<=s.next∧s.next<=1099511627776
 ver:0<=s.ver∧s.ver<=u
 sum:0<=s.sum∧s.sum<4294967296
def Sto.last (s:Sto):Seg:=s.segs.getLastD ⟨0,0,0⟩
theorem last_q {s:Sto} (h:1<=s.segs.length):s.segs.getLast?=some s.last:=by
 unfold Sto.last;rw[List.getLastD_eq_getLast?];cases hc:s.segs.getLast? with
 | some g=>rfl
 | none=>rw[List.getLast?_eq_none_iff] at hc;rw[hc] at h;exact absurd h (by decide)
theorem last_mem {s:Sto} (h:1<=s.segs.length):s.last∈s.segs:=List.mem_of_getLast? (last_q h)
def fileN (n:Int):Txt:=nameF 115 n.toNat
theorem seg_int {n:Int} (h:0<=n∧n<=1099511627776):call 52 [vi n] []=some (vs (fileN n),[]):=by
 have:=seg_spec n.toNat (by omega)
 have e:((n.toNat:Nat):Int)=n:=by omega
 rw[e] at this;exact this
def syncT (s:Sto):Sto × Int :=
 let r:=chgF s.disk (synR s.disk.files (fileN s.last.base))
 ({ s with disk:=r.1,sure:=if r.2=0 then s.next else s.sure },r.2)
def rowsM (segs:List Seg) (i:Nat):List (List D):=(segs.take i).map (fun g=>eI g.base)++List.replicate (segs.length-i) (eI 0)
theorem rowsM_len (segs:List Seg) (i:Nat) (h:i<=segs.length):(rowsM segs i).length=segs.length:=by simp[rowsM];omega
theorem rowsM_at (segs:List Seg) (i:Nat) (h:i<segs.length):(rowsM segs i)[i]?=some (eI 0):=by
 unfold rowsM;rw[List.getElem?_append_right (by simp;omega),List.getElem?_replicate]
 rw[if_pos];simp;omega
theorem rowsM_set (segs:List Seg) (i:Nat) (h:i<segs.length):(rowsM segs i).set i (eI segs[i].base)=rowsM segs (i+1):=by
 unfold rowsM;have e:segs.length-i=(segs.length-(i+1))+1:=by omega
 rw[List.set_append_right _ _ (by simp;omega),e,List.replicate_succ,List.take_succ_eq_append_getElem h,List.map_append]
 have e2:i-((segs.take i).map fun g=>eI g.base).length=0:=by simp;omega
 rw[e2];simp
set_option maxRecDepth 8000 in
theorem man_spec (s:Sto) (hl:s.segs.length<=1000000):call 54 [.agg s.l] []=some (.agg s.man.l,[]):=by
 apply enterS s54 rfl;obtain⟨⟨fl,cp,ar,lf,dn⟩,ver,segs,next,sure,size,sum⟩:=s;simp only at hl;unfold Sto.man;(simp(disch:=first|decide|omega|(intros;exact Eq.trans rfl rfl)|simp only[puri]) only[a54,Sto.l,Dsk.l,Man.l,go_sem,seval,dis,vdr,A.kind,A.xs,optX,A.isN])
 refine loop_boxM (m:=0) (σ:=Nat) (fun i=>segs.length-i) (fun i=>i<=segs.length) (fun i=>[V.one (.p 0 0),V.one (.p 1 0),vl (segs.map Seg.enc),vi segs.length,vi i])
  (fun i=>[.cells [.d (.i .i64 0),.ns,.d (.i .i64 0),.d (.i .u32 0)],.cells [.d (.i .i64 ver),.sl 2 1 0 segs.length,.d (.i .i64 size),.d (.i .u32 sum)],.arr 1 (rowsM segs i) 0]) (fun _=>(V.agg [.d (.i .i64 ver),.d (.l ((segs.map Seg.base).map eI)),.d (.i .i64 size),.d (.i .u32 sum)],[])) ?_ 0 (Nat.zero_le _) _ _ ?_
 rotate_left
 ·have e:rowsM segs 0=List.replicate segs.length [D.i .i64 0]:=by simp[rowsM,eI]
  rw[e];exact hdM
 intro i hi R hR;have hln:=rowsM_len segs i hi;by_cases c:i<segs.length
 ·have g1:(segs.map Seg.enc)[i]?=some segs[i].enc:=by simp[c]
  have g2:=rowsM_at segs i c;have g3:=rowsM_set segs i c;have hR':=hR (i+1) (by omega) (by omega)
  rw[<- g3] at hR';generalize rowsM segs i=Q at *;generalize segs[i]=g at *;obtain⟨b,n,z⟩:=g;simp only[eI] at g2 hR';(simp(disch:=first|decide|omega|(intros;exact Eq.trans rfl rfl)|simp only[puri]) only[a54_0,c,g1,g2,Seg.enc,hln,go_sem,seval,dis])
  exact hR' _ _ hdM
 ·have e:i=segs.length:=by omega
  subst e;have e2:rowsM segs segs.length=segs.map fun g=>eI g.base:=by simp[rowsM]
  rw[e2] at hln ⊢;have e3:(segs.map Seg.base).map eI=segs.map fun g=>eI g.base:=by simp
  rw[e3];generalize (segs.map fun g=>eI g.base)=Q at *
  have e4:Q.take segs.length=Q:=List.take_of_length_le (by omega)
  (simp(disch:=first|decide|omega|(intros;exact Eq.trans rfl rfl)|simp only[puri]) only[a54_0,e4,hln,go_sem,seval,dis])
  try simp[trim,V.refs,L.refs,Box.refs]
def createT (d:Dsk):Sto × Int :=
 let s1:=crtS (fileN 0) (d,0)
 let s2:=if s1.2=0 then swapS ⟨1,[0],0,0⟩ s1 else s1
 if s2.2=0 then(⟨s2.1,1,[⟨0,0,0⟩],0,0,0,0⟩,0) else(⟨s2.1,0,[],0,0,0,0⟩,s2.2)
set_option maxRecDepth 8000 in
theorem new_spec {k u:Nat} (d:Dsk) (hd:okN k u d) (hk:k<=800000) (hu:u<=800000000000):call 24 [.agg d.l] []=some (stoV (createT d),[]):=by
 apply enterS s24 rfl;unfold createT;simp only[];have q1:=seg_int (n:=0) ⟨by decide,by decide⟩
 have k1:=crt_ok (s:=(d,0)) hd (fileN 0);have q2:=screate_spec (d,0) (hd.ok (by omega) (by omega)) (fileN 0)
 have q3:=man_spec ⟨⟨[],0,false,0,false⟩,1,[⟨0,0,0⟩],0,0,0,0⟩ (by simp)
 have q4:=fun s1 (h:okN (k+1) u s1.1)=>sswap_spec s1 h (by omega) (by omega) ⟨1,[0],0,0⟩ ⟨by simp,by simp⟩
 have q4:=q4 _ k1;generalize crtS (fileN 0) (d,0)=s1 at *;generalize swapS ⟨1,[0],0,0⟩ s1=s3 at *;obtain⟨fl,cp,ar,lf,dn⟩:=d;obtain⟨⟨fl1,cp1,ar1,lf1,dn1⟩,e1⟩:=s1;obtain⟨⟨fl3,cp3,ar3,lf3,dn3⟩,e3⟩:=s3;simp only[stB,Dsk.l,Sto.l,Seg.enc,Sto.man,Man.l,List.cons_append,List.nil_append,List.map_cons,List.map_nil,eI] at q1 q2 q3 q4 ⊢;have r2:∀ P Q R T:Box,callIso call 51 [.one (.p 4 0),vs (fileN 0)] [P,Q,R,T,.cells [.d (.l (fl.map Fil.enc)),.d (.i .i64 cp),.d (.b ar),.d (.i .i64 lf),.d (.b dn),.d (.i .i64 0)]]=some (.tup [],[P,Q,R,T,.cells [.d (.l (fl1.map Fil.enc)),.d (.i .i64 cp1),.d (.b ar1),.d (.i .i64 lf1),.d (.b dn1),.d (.i .i64 e1)]]):=fun P Q R T =>
  iso_at (ids:=[4]) rfl rfl rfl q2 rfl
 have r4:∀ P Q R T:Box,callIso call 53 [.one (.p 4 0),.agg [.d (.i .i64 1),.d (.l [[.i .i64 0]]),.d (.i .i64 0),.d (.i .u32 0)]] [P,Q,R,T,.cells [.d (.l (fl1.map Fil.enc)),.d (.i .i64 cp1),.d (.b ar1),.d (.i .i64 lf1),.d (.b dn1),.d (.i .i64 e1)]]=some (.tup [],[P,Q,R,T,.cells [.d (.l (fl3.map Fil.enc)),.d (.i .i64 cp3),.d (.b ar3),.d (.i .i64 lf3),.d (.b dn3),.d (.i .i64 e3)]]):=fun P Q R T =>
  iso_at (ids:=[4]) rfl rfl rfl q4 rfl
 by_cases c:e1=0
 ·subst c;by_cases c3:e3=0
  ·subst c3;(simp(disch:=first|decide|omega|(intros;exact Eq.trans rfl rfl)|simp only[puri]) only[wkf,a24,q1,↓r2,q3,↓r4,go_sem,seval,dis,vdr,A.kind,A.xs,optX,A.isN])
   try simp[trim,stoV,Sto.l,Dsk.l,Seg.enc]
  ·(simp(disch:=first|decide|omega|(intros;exact Eq.trans rfl rfl)|simp only[puri]) only[wkf,a24,q1,↓r2,q3,↓r4,c3,go_sem,seval,dis,vdr,A.kind,A.xs,optX,A.isN])
   try simp[trim,stoV,Sto.l,Dsk.l,Seg.enc,c3]
 ·(simp(disch:=first|decide|omega|(intros;exact Eq.trans rfl rfl)|simp only[puri]) only[wkf,a24,q1,↓r2,c,go_sem,seval,dis,vdr,A.kind,A.xs,optX,A.isN])
  try simp[trim,stoV,Sto.l,Dsk.l,Seg.enc,c]
def rollX (s:Sto):Sto:={ s with ver:=s.ver+1,segs:=s.segs++[⟨s.next,0,0⟩] }
def rollD (s:Sto):Dsk × Int :=
 let c:=crtS (fileN s.next) (s.disk,0)
 if c.2=0 then unlS (fileN s.next) (swapS (rollX s).man c) else c
def rollT (s:Sto):Sto × Int :=
 if 64<=s.segs.length then(s,9) else
  if(syncT s).2≠0 then syncT s else
   if(rollD (syncT s).1).2=0 then({ rollX (syncT s).1 with disk:=(rollD (syncT s).1).1 },0)
   else({ (syncT s).1 with disk:=(rollD (syncT s).1).1 },(rollD (syncT s).1).2)
theorem syncT_ok {k u:Nat} {s:Sto} (h:okS k u s):okS k u (syncT s).1:=by
 refine⟨?_,h.len,h.seg,h.next,h.ver,h.sum⟩;have:=syn_ok (s:=(s.disk,0)) h.dsk (fileN s.last.base);exact this
theorem okS.up {k u k' u':Nat} {s:Sto} (h:okS k u s) (hk:k<=k') (hu:u<=u'):okS k' u' s :=
 ⟨h.dsk.up hk hu,h.len,fun g hg=>by have:=h.seg g hg;omega,h.next,by have:=h.ver;omega,h.sum⟩
theorem roll_okD {k u:Nat} {s:Sto} (h:okS k u s):okN (k+2) (u+800) (rollD s).1:=by
 unfold rollD;simp only[];have k1:=crt_ok (s:=(s.disk,0)) h.dsk (fileN s.next);split
 ·exact unl_ok (swap_okN k1 _) _
 ·exact k1.up (by omega) (by omega)
theorem rollT_ok {k u:Nat} {s:Sto} (h:okS k u s):okS (k+2) (u+800) (rollT s).1:=by
 unfold rollT;have h1:=syncT_ok h;have hsl:(syncT s).1.segs=s.segs:=rfl;split
 ·exact h.up (by omega) (by omega)
 ·rename_i c;split
  ·exact h1.up (by omega) (by omega)
  ·have hd:=roll_okD h1;generalize (syncT s).1=s1 at *;have h2:=h1.up (k':=k+2) (u':=u+800) (by omega) (by omega)
   split
   ·refine⟨hd,?_,?_,h2.next,?_,h2.sum⟩
    ·show 1<=(s1.segs++[_]).length∧(s1.segs++[_]).length<=64;rw[List.length_append,List.length_singleton,hsl];omega
    ·intro g hg;rcases List.mem_append.1 hg with hg|hg
     ·exact h2.seg g hg
     ·rw[List.mem_singleton.1 hg];exact⟨h1.next,by simp only[];omega,by simp only[];omega⟩
    ·show 0<=s1.ver+1∧s1.ver+1<=_;have:=h1.ver;omega
   ·exact⟨hd,h2.len,h2.seg,h2.next,h2.ver,h2.sum⟩
def putF (r:Rec):Txt × Int:=if whyF r=0 then(frameF (bodyF r),0) else([],whyF r)
theorem putF_len (r:Rec):(putF r).1.length<=90:=by
 unfold putF;split
 ·rename_i h;have hb:=(why_fit.1 h).blen;have h9:=nd_le9 (n:=(bodyF r).length) (by omega)
  show(frameF (bodyF r)).length<=90;rw[frameF_len];omega
 ·simp
def addSeg (s:Sto) (n:Nat):Sto:={ s with segs:=s.segs.dropLast++[⟨s.last.base,s.last.n+1,s.last.size+n⟩],next:=s.next+1 }
def putT (t:Sto) (x:Txt):Sto × Int :=
 let d:=chgF t.disk (appR t.disk.files t.disk.cap (fileN t.last.base) x)
 if d.2≠0 then({ t with disk:=d.1 },d.2) else({ addSeg t x.length with disk:=d.1 },0)
def appT (s:Sto) (seg:Int) (r:Rec):Sto × Int :=
 if(putF r).2≠0∨r.at_≠s.next then(s,1) else
  if 1099511627776<=s.next then(s,13) else
   if seg<=s.last.size then(if(rollT s).2≠0 then rollT s else putT (rollT s).1 (putF r).1) else putT s (putF r).1
theorem putT_ok {k u:Nat} {s:Sto} (h:okS k u s) (x:Txt) (hn:s.next<1099511627776):okS k (u+x.length+1) (putT s x).1:=by
 have h1:=app_ok (s:=(s.disk,0)) h.dsk (fileN s.last.base) x;have h2:okN k (u+x.length+1) (chgF s.disk (appR s.disk.files s.disk.cap (fileN s.last.base) x)).1:=okN.up (k:=k) (u:=u+x.length) h1 (Nat.le_refl _) (by omega)
 have h3:=h.up (k':=k) (u':=u+x.length+1) (Nat.le_refl _) (by omega)
 unfold putT;simp only[];split
 ·exact⟨h2,h3.len,h3.seg,h3.next,h3.ver,h3.sum⟩
 ·refine⟨h2,?_,?_,?_,h3.ver,h3.sum⟩
  ·show 1<=(s.segs.dropLast++[_]).length∧(s.segs.dropLast++[_]).length<=64;have:=h.len;rw[List.length_append,List.length_singleton,List.length_dropLast];omega
  ·intro g hg;rcases List.mem_append.1 hg with hg|hg
   ·exact h3.seg g (List.dropLast_subset _ hg)
   ·rw[List.mem_singleton.1 hg];have:=h.seg _ (last_mem h.len.1);exact⟨this.1,by simp only[];omega,by simp only[];omega⟩
  ·show 0<=s.next+1∧s.next+1<=_;have:=h.next;omega
theorem appT_ok {k u:Nat} {s:Sto} (h:okS k u s) (seg:Int) (r:Rec):okS (k+2) (u+1000) (appT s seg r).1:=by
 have hl:=putF_len r;unfold appT;have hr:=rollT_ok h;split
 ·exact h.up (by omega) (by omega)
 ·split
  ·exact h.up (by omega) (by omega)
  ·rename_i c;split
   ·split
    ·exact hr.up (by omega) (by omega)
    ·have hn:(rollT s).1.next=s.next:=by
      unfold rollT syncT rollX;split
      ·rfl
      ·split
       ·rfl
       ·split <;> rfl
     exact(putT_ok hr _ (by rw[hn];omega)).up (by omega) (by omega)
   ·exact(putT_ok h _ (by omega)).up (by omega) (by omega)
theorem rollT_next (s:Sto):(rollT s).1.next=s.next:=by
 unfold rollT syncT rollX;split
 ·rfl
 ·split
  ·rfl
  ·split <;> rfl
theorem readF_len (l:List Fil) (n:Txt):(readF l n).1.length<=usedF l:=by
 unfold readF;split
 ·rename_i f hf;split
  ·obtain⟨h,rfl⟩:=List.getElem?_eq_some_iff.1 hf;have h1:=used_take l (posF l n+1);rw[List.take_succ_eq_append_getElem h,used_app,used_one] at h1;simp only[];omega
  ·simp
 ·simp
def Sto.floor (s:Sto):Int:=match s.segs with|[]=>0|g::_=>g.base
def Sto.txt (s:Sto) (g:Seg):Txt:=(readF s.disk.files (fileN g.base)).1
def hasD (l:List Fil) (n d:Txt):Prop:=∃ f∈l,f.name=n∧f.data=d
theorem read_hasD {l:List Fil} {n d:Txt} (hs:srt l) (h:hasD l n d):readF l n=(d,0):=by
 obtain⟨f,hf,rfl,rfl⟩:=h;obtain⟨i,hi,rfl⟩:=List.getElem_of_mem hf;unfold readF;rw[pos_of hs i hi,List.getElem?_eq_getElem hi];simp
theorem chg_res {d:Dsk} {r:List Fil × Int} (h:(chgF d r).2=0):r.2=0∧(chgF d r).1.files=r.1:=by
 unfold chgF at h ⊢;split at h
 ·cases h
 ·rename_i h1;split at h
  ·rename_i h2;exact absurd h h2
  ·rename_i h2;rw[if_neg h1,if_neg h2];split at h
   ·rename_i h3;split at h
    ·cases h
    ·rename_i h4;rw[if_pos h3,if_neg h4];exact⟨by simpa using h2,rfl⟩
   ·rename_i h3;rw[if_neg h3];exact⟨by simpa using h2,rfl⟩
theorem chg_keep {d:Dsk} {r:List Fil × Int} {n x:Txt} (h:hasD d.files n x) (hr:r.2=0->hasD r.1 n x):hasD (chgF d r).1.files n x:=by
 unfold chgF;split
 ·exact h
 ·split
  ·exact h
  ·rename_i h2;have h3:=hr (by simpa using h2)
   split
   ·split
    ·exact h
    ·exact h3
   ·exact h3
theorem ins_hasD {l:List Fil} {n x:Txt} (k:Nat) (g:Fil) (h:hasD l n x):hasD (insF l k g) n x:=by
 obtain⟨f,hf,h1⟩:=h;refine⟨f,?_,h1⟩;unfold insF;rw[<- List.take_append_drop k l] at hf;rcases List.mem_append.1 hf with hf|hf
 ·exact List.mem_append_left _ hf
 ·exact List.mem_append_right _ (List.mem_cons_of_mem _ hf)
theorem ins_new (l:List Fil) (k:Nat) (g:Fil):hasD (insF l k g) g.name g.data:=⟨g,by unfold insF;simp,rfl,rfl⟩
theorem set_hasD {l:List Fil} {n x:Txt} (k:Nat) (hk:k<l.length) (g:Fil) (h:hasD l n x) (hn:l[k].name≠n):hasD (l.set k g) n x:=by
 obtain⟨f,hf,h1,h2⟩:=h;obtain⟨i,hi,rfl⟩:=List.getElem_of_mem hf;have hne:k≠i:=fun e=>by subst e;exact hn h1
 refine⟨l[i],?_,h1,h2⟩;have e:l[i]=(l.set k g)[i]'(by simpa using hi):=by rw[List.getElem_set_ne hne]
 rw[e];exact List.getElem_mem _
theorem mem_set1 {l:List Fil} {k:Nat} (hk:k<l.length) (g:Fil):g∈l.set k g:=by
 have hm:(l.set k g)[k]'(by simpa using hk)∈l.set k g:=List.getElem_mem _
 rwa [List.getElem_set_self] at hm
theorem set_new {l:List Fil} (k:Nat) (hk:k<l.length) (g:Fil):hasD (l.set k g) g.name g.data:=by
 exact⟨g,mem_set1 hk g,rfl,rfl⟩
theorem del_hasD {l:List Fil} {n x:Txt} (k:Nat) (hk:k<l.length) (h:hasD l n x) (hn:l[k].name≠n):hasD (delF l k) n x:=by
 obtain⟨f,hf,h1,h2⟩:=h;refine⟨f,?_,h1,h2⟩;have e:l=l.take k++([l[k]]++l.drop (k+1)):=by rw[List.singleton_append,<- List.drop_eq_getElem_cons hk,List.take_append_drop]
 rw[e] at hf;unfold delF;rcases List.mem_append.1 hf with hf|hf
 ·exact List.mem_append_left _ hf
 ·rcases List.mem_append.1 hf with hf|hf
  ·rw[List.mem_singleton.1 hf] at h1;exact absurd h1 hn
  ·exact List.mem_append_right _ hf
theorem stp_keep {s:Dsk × Int} {f:Dsk->Dsk × Int} {n x:Txt} (h:hasD s.1.files n x) (hf:hasD (f s.1).1.files n x):hasD (stp s f).1.files n x:=by
 unfold stp;split
 ·exact hf
 ·exact h
theorem crt_keep {s:Dsk × Int} {n x:Txt} (m:Txt) (h:hasD s.1.files n x):hasD (crtS m s).1.files n x:=by
 refine stp_keep h (chg_keep h fun h0=>?_)
 unfold crtR at h0 ⊢;split at h0
 ·rename_i h1;split at h0
  ·cases h0
  ·rename_i h2;rw[if_pos h1,if_neg h2];exact ins_hasD _ _ h
 ·cases h0
theorem del_keep {s:Dsk × Int} {n x m:Txt} (hm:m≠n) (h:hasD s.1.files n x):hasD (delS m s).1.files n x:=by
 refine stp_keep h (chg_keep h fun h0=>?_)
 unfold delR at h0 ⊢;split at h0
 ·rename_i h1;obtain⟨hp,he⟩:=has_at h1;rw[if_pos h1];exact del_hasD _ hp h (by rw[he];exact hm)
 ·cases h0
theorem syn_keep {s:Dsk × Int} {n x:Txt} (hs:srt s.1.files) (m:Txt) (h:hasD s.1.files n x):hasD (synS m s).1.files n x:=by
 refine stp_keep h (chg_keep h fun h0=>?_)
 unfold synR at h0 ⊢;split at h0
 ·rename_i h1;obtain⟨hp,he⟩:=has_at h1;rw[if_pos h1,upd_at hp];by_cases hm:m=n
  ·have hr:=read_hasD hs h;unfold readF at hr;rw[<- hm,List.getElem?_eq_getElem hp] at hr;simp only[he,if_true,Prod.mk.injEq,and_true] at hr;refine(?_:∀ G:Fil,G.name=n->G.data=x->hasD (s.1.files.set (posF s.1.files m) G) n x) _ (he.trans hm) hr;rintro G rfl rfl;exact set_new _ hp G
  ·exact set_hasD _ hp _ h (by rw[he];exact hm)
 ·cases h0
theorem app_keep {s:Dsk × Int} {n x m:Txt} (hm:m≠n) (t:Txt) (h:hasD s.1.files n x):hasD (appS m t s).1.files n x:=by
 refine stp_keep h (chg_keep h fun h0=>?_)
 unfold appR at h0 ⊢;split at h0
 ·rename_i h1;split at h0
  ·cases h0
  ·rename_i h2;obtain⟨hp,he⟩:=has_at h1;rw[if_pos h1,if_neg h2,upd_at hp];exact set_hasD _ hp _ h (by rw[he];exact hm)
 ·cases h0
theorem ren_keep {s:Dsk × Int} {n x m t:Txt} (hm:m≠n) (ht:t≠n) (h:hasD s.1.files n x):hasD (renS m t s).1.files n x:=by
 refine stp_keep h (chg_keep h fun h0=>?_)
 unfold renR at h0 ⊢;split at h0
 ·rename_i h1;split at h0
  ·rename_i h2;obtain⟨hp,he⟩:=has_at h1;rw[if_pos h1,if_pos h2];have h3:=del_hasD _ hp h (by rw[he];exact hm)
   unfold putAt;split
   ·rename_i h4;obtain⟨hp4,he4⟩:=has_at h4;exact set_hasD _ hp4 _ h3 (by rw[he4,nameAt_name];exact ht)
   ·exact ins_hasD _ _ h3
  ·cases h0
 ·cases h0
theorem unl_keep {s:Dsk × Int} {n x m:Txt} (hm:m≠n) (h:hasD s.1.files n x):hasD (unlS m s).1.files n x:=by
 unfold unlS;split
 ·exact h
 ·split
  ·exact del_keep (s:=(s.1,0)) hm h
  ·exact del_keep (s:=(s.1,0)) hm h
theorem swap_keep {k u:Nat} {s:Dsk × Int} (hd:okN k u s.1) {n x:Txt} (m:Man) (h1:[110]≠n) (h2:[109]≠n) (h:hasD s.1.files n x):hasD (swapS m s).1.files n x:=by
 unfold swapS;have h3:hasD (if s.2=0 then(s.1,(manPut m).2) else s).1.files n x:=by split <;> exact h
 have k1:okN k u (if s.2=0 then(s.1,(manPut m).2) else s).1:=by split <;> exact hd
 generalize (if s.2=0 then(s.1,(manPut m).2) else s)=s1 at *
 have h4:hasD (if(readF s1.1.files [110]).2=0 then delS [110] s1 else s1).1.files n x:=by
  split
  ·exact del_keep h1 h3
  ·exact h3
 have k2:okN k u (if(readF s1.1.files [110]).2=0 then delS [110] s1 else s1).1:=by
  split
  ·exact del_okN k1 _
  ·exact k1
 simp only[];generalize (if(readF s1.1.files [110]).2=0 then delS [110] s1 else s1)=s2 at *
 have h5:=crt_keep [110] h4;have k3:=crt_ok k2 [110];split
 ·exact h5
 ·exact ren_keep h1 h2 (syn_keep (unl_ok (app_ok k3 [110] (manPut m).1) [110]).srt _ (unl_keep h1 (app_keep h1 _ h5)))
theorem app_new {d:Dsk} {n x t:Txt} (hs:srt d.files) (h:hasD d.files n x) (h0:(chgF d (appR d.files d.cap n t)).2=0):hasD (chgF d (appR d.files d.cap n t)).1.files n (x++t):=by
 obtain⟨h1,h2⟩:=chg_res h0;rw[h2];unfold appR at h1 ⊢;split at h1
 ·rename_i h3;split at h1
  ·cases h1
  ·rename_i h4;obtain⟨hp,he⟩:=has_at h3;have hr:=read_hasD hs h;unfold readF at hr;rw[List.getElem?_eq_getElem hp] at hr;simp only[he,if_true,Prod.mk.injEq,and_true] at hr;rw[if_pos h3,if_neg h4,upd_at hp];refine(?_:∀ G:Fil,G.name=n->G.data=x++t->hasD (d.files.set (posF d.files n) G) n (x++t)) _ he (by simp[hr])
   rintro G rfl hG;rw[<- hG];exact set_new _ hp G
 ·cases h1
theorem crt_new {d:Dsk} {n:Txt} (h0:(crtS n (d,0)).2=0):hasD (crtS n (d,0)).1.files n []:=by
 unfold crtS stp at h0 ⊢;rw[if_pos rfl] at h0 ⊢;obtain⟨h1,h2⟩:=chg_res h0;rw[h2];unfold crtR at h1 ⊢;split at h1
 ·rename_i h3;split at h1
  ·cases h1
  ·rename_i h4;rw[if_pos h3,if_neg h4];exact ins_new _ _ ⟨n,[],0⟩
 ·cases h1
theorem digN_lt (n j:Nat):digN n j<58:=by unfold digN;omega
theorem nameF_dig {a b:Nat} (h:nameF 115 a=nameF 115 b) (j:Nat) (hj:j<13):a / 10 ^ (12-j) % 10=b / 10 ^ (12-j) % 10:=by
 unfold nameF at h;simp only[List.cons.injEq,true_and] at h;have h1:=List.map_inj_left.1 h j (by simpa using hj)
 have h2:=congrArg UInt8.toNat h1;have ha:=digN_lt a (j+1);have hb:=digN_lt b (j+1);rw[UInt8.toNat_ofNat_of_lt' (by show _<256;omega),UInt8.toNat_ofNat_of_lt' (by show _<256;omega)] at h2
 unfold digN at h2;have e:13-(j+1)=12-j:=by omega
 rw[e] at h2;omega
theorem nameF_inj {a b:Nat} (ha:a<10 ^ 13) (hb:b<10 ^ 13) (h:nameF 115 a=nameF 115 b):a=b:=by
 have key:∀ k,k<=13->a / 10 ^ (13-k)=b / 10 ^ (13-k):=by
  intro k;induction k with
  | zero=>intro _;rw[Nat.div_eq_of_lt ha,Nat.div_eq_of_lt hb]
  | succ k ih =>
   intro hk;have h1:=ih (by omega)
   have h2:=nameF_dig h k (by omega)
   have e:13-k=(12-k)+1:=by omega
   have e2:13-(k+1)=12-k:=by omega
   rw[e,Nat.pow_succ,<- Nat.div_div_eq_div_mul,<- Nat.div_div_eq_div_mul] at h1;rw[e2];omega
 have:=key 13 (by omega)
 simpa using this
theorem fileN_inj {a b:Int} (ha:0<=a∧a<=1099511627776) (hb:0<=b∧b<=1099511627776) (h:fileN a=fileN b):a=b:=by
 have:=nameF_inj (a:=a.toNat) (b:=b.toNat) (by omega) (by omega) h
 omega
theorem fileN_n (a:Int) (c:UInt8):[c]≠fileN a:=fun h=>by
 have:=congrArg List.length h;simp[fileN,nameF] at this
abbrev SR:=Seg × List Rec
def chainM:Int->List SR->Int->Prop
 | b,[],e=>b=e
 | b,p::M,e=>p.1.base=b∧1<=p.2.length∧chainM (b+p.2.length) M e
theorem chain_snoc:∀ (M:List SR) (b:Int) (p:SR) (e:Int),chainM b (M++[p]) e↔(chainM b M p.1.base∧1<=p.2.length∧p.1.base+p.2.length=e)
 | [],b,p,e=>by
  simp only[List.nil_append,chainM];constructor
  ·rintro⟨rfl,h2,h3⟩;exact⟨rfl,h2,h3⟩
  ·rintro⟨rfl,h2,h3⟩;exact⟨rfl,h2,h3⟩
 | q::M,b,p,e=>by
  simp only[List.cons_append,chainM,chain_snoc M];constructor
  ·rintro⟨h1,h2,h3,h4,h5⟩;exact⟨⟨h1,h2,h3⟩,h4,h5⟩
  ·rintro⟨⟨h1,h2,h3⟩,h4,h5⟩;exact⟨h1,h2,h3,h4,h5⟩
theorem chain_mem:∀ (M:List SR) (b e:Int),chainM b M e->b<=e∧∀ p∈M,b<=p.1.base∧p.1.base+p.2.length<=e∧1<=p.2.length
 | [],b,e,h=>⟨by simp only[chainM] at h;omega,fun _ h=>by cases h⟩
 | q::M,b,e,h=>by
  obtain⟨h1,h2,h3⟩:=h;obtain⟨h4,h5⟩:=chain_mem M _ _ h3;refine⟨by omega,fun p hp=>?_⟩
  rcases List.mem_cons.1 hp with rfl|hp
  ·exact⟨by omega,by omega,h2⟩
  ·have:=h5 p hp;exact⟨by omega,this.2.1,this.2.2⟩
def recsM (M:List SR):List Rec:=M.flatMap (·.2)
theorem recsM_app (M N:List SR):recsM (M++N)=recsM M++recsM N:=List.flatMap_append
theorem recsM_one (p:SR):recsM [p]=p.2:=by simp[recsM]
theorem chain_len:∀ (M:List SR) (b e:Int),chainM b M e->b+(recsM M).length=e
 | [],b,e,h=>by simpa[recsM,chainM] using h
 | q::M,b,e,h=>by
  obtain⟨h1,h2,h3⟩:=h;have:=chain_len M _ _ h3;have e1:recsM (q::M)=q.2++recsM M:=rfl;rw[e1,List.length_append];omega
structure fileOk (fs:List Fil) (p:SR):Prop where
 has:hasD fs (fileN p.1.base) (rowS p.2)
 why:∀ r∈p.2,whyF r=0
 num:numB p.1.base p.2
 n:p.1.n=p.2.length
 size:p.1.size=(rowS p.2).length
structure Inv (f:Int) (s:Sto) (M:List SR) (g:Seg) (l:List Rec):Prop where
 segs:s.segs=M.map (·.1)++[g]
 file:∀ p∈M++[(g,l)],fileOk s.disk.files p
 chain:chainM f M g.base
 next:s.next=g.base+l.length
 sure:0<=s.sure∧s.sure<=s.next
theorem find_num {b:Int} {l:List Rec} (h:numB b l) (k:Nat) (hk:k<l.length):l.find? (fun r=>decide (r.at_=b+k))=some l[k]:=by
 rw[List.find?_eq_some_iff_getElem];refine⟨by simpa using h k hk,k,hk,rfl,fun j hj=>?_⟩
 have:=h j (by omega)
 simp only[Bool.not_eq_true',decide_eq_false_iff_not];omega
theorem chg_fail {d:Dsk} {r:List Fil × Int} (h:(chgF d r).2≠0):(chgF d r).1.files=d.files:=by
 unfold chgF at h ⊢;split
 ·rfl
 ·rename_i h1;rw[if_neg h1] at h;split
  ·rfl
  ·rename_i h2;rw[if_neg h2] at h;split
   ·rename_i h3;rw[if_pos h3] at h;split
    ·rfl
    ·rename_i h4;rw[if_neg h4] at h;exact absurd rfl h
   ·rename_i h3;rw[if_neg h3] at h;exact absurd rfl h
theorem fileOk.keep {fs fs':List Fil} {p:SR} (h:fileOk fs p) (hk:hasD fs (fileN p.1.base) (rowS p.2)->hasD fs' (fileN p.1.base) (rowS p.2)):fileOk fs' p:=⟨hk h.has,h.why,h.num,h.n,h.size⟩
theorem Inv.last {f:Int} {s:Sto} {M:List SR} {g:Seg} {l:List Rec} (h:Inv f s M g l):s.last=g:=by
 unfold Sto.last;rw[h.segs];simp
theorem Inv.disk {f:Int} {s:Sto} {M:List SR} {g:Seg} {l:List Rec} (h:Inv f s M g l) (d:Dsk) (hk:∀ p∈M++[(g,l)],hasD s.disk.files (fileN p.1.base) (rowS p.2)->hasD d.files (fileN p.1.base) (rowS p.2)):Inv f { s with disk:=d } M g l :=
 ⟨h.segs,fun p hp=>(h.file p hp).keep (hk p hp),h.chain,h.next,h.sure⟩
theorem sync_inv {k u:Nat} {f:Int} {s:Sto} {M:List SR} {g:Seg} {l:List Rec} (ho:okS k u s) (h:Inv f s M g l) (hn:0<=s.next):Inv f (syncT s).1 M g l:=by
 have h1:Inv f { s with disk:=(chgF s.disk (synR s.disk.files (fileN s.last.base))).1 } M g l:=h.disk _ fun p _ hd=>syn_keep (s:=(s.disk,0)) ho.dsk.srt _ hd
 refine⟨h1.segs,h1.file,h1.chain,h1.next,?_⟩;unfold syncT;simp only[];have:=h.sure;split <;> omega
theorem sync_mono {k u:Nat} {s:Sto} (ho:okS k u s) (h:s.sure<=s.next):s.sure<=(syncT s).1.sure:=by
 unfold syncT;simp only[];split <;> omega
theorem rollD_keep {k u:Nat} {s:Sto} (ho:okS k u s) {n x:Txt} (h1:[110]≠n) (h2:[109]≠n) (h3:fileN s.next≠n) (h:hasD s.disk.files n x):hasD (rollD s).1.files n x:=by
 unfold rollD;simp only[];have k1:=crt_ok (s:=(s.disk,0)) ho.dsk (fileN s.next);have h4:=crt_keep (s:=(s.disk,0)) (fileN s.next) h;split
 ·exact unl_keep h3 (swap_keep k1 _ h1 h2 h4)
 ·exact h4
theorem rollD_new {k u:Nat} {s:Sto} (ho:okS k u s) (h:(rollD s).2=0):hasD (rollD s).1.files (fileN s.next) []:=by
 unfold rollD at h ⊢;simp only[] at h ⊢;have k1:=crt_ok (s:=(s.disk,0)) ho.dsk (fileN s.next);by_cases c:(crtS (fileN s.next) (s.disk,0)).2=0
 ·rw[if_pos c] at h ⊢;have h4:=swap_keep k1 (rollX s).man (fileN_n _ _) (fileN_n _ _) (crt_new c);unfold unlS at h ⊢;split at h
  ·rename_i h5;rw[if_pos h5];exact h4
  ·split at h
   ·cases h
   ·rename_i h6;exact absurd h h6
 ·rw[if_neg c] at h;exact absurd h c
theorem bases_ne {k u:Nat} {f:Int} {s:Sto} {M:List SR} {g:Seg} {l:List Rec} (ho:okS k u s) (h:Inv f s M g l) (hl:l≠[]):∀ p∈M++[(g,l)],fileN s.next≠fileN p.1.base:=by
 intro p hp he;have hpm:p.1∈s.segs:=by
  rw[h.segs];rcases List.mem_append.1 hp with hp|hp
  ·exact List.mem_append_left _ (List.mem_map_of_mem hp)
  ·rw[List.mem_singleton.1 hp];simp
 have:=fileN_inj ho.next (ho.seg _ hpm).1 he;have hll:0<l.length:=List.length_pos_iff.2 hl;have hnx:=h.next;rcases List.mem_append.1 hp with hp|hp
 ·have:=(chain_mem _ _ _ h.chain).2 p hp;omega
 ·rw[List.mem_singleton.1 hp] at this;simp only[] at this;omega
theorem roll_inv {k u:Nat} {f:Int} {s:Sto} {M:List SR} {g:Seg} {l:List Rec} (ho:okS k u s) (h:Inv f s M g l) (hl:l≠[]) :
  ((rollT s).2≠0∧Inv f (rollT s).1 M g l)∨((rollT s).2=0∧Inv f (rollT s).1 (M++[(g,l)]) ⟨s.next,0,0⟩ []):=by
 have h1:=sync_inv ho h ho.next.1;have o1:=syncT_ok ho;have hn:(syncT s).1.next=s.next:=rfl;unfold rollT;by_cases c1:64<=s.segs.length
 ·rw[if_pos c1];exact .inl ⟨by simp,h⟩
 ·rw[if_neg c1];by_cases c2:(syncT s).2=0
  ·rw[if_neg (by simp[c2])]
   generalize (syncT s).1=t at *;have hk:∀ p∈M++[(g,l)],hasD t.disk.files (fileN p.1.base) (rowS p.2)->hasD (rollD t).1.files (fileN p.1.base) (rowS p.2):=fun p hp hd =>
    rollD_keep o1 (fileN_n _ _) (fileN_n _ _) (bases_ne o1 h1 hl p hp) hd
   by_cases c3:(rollD t).2=0
   ·rw[if_pos c3];refine .inr ⟨rfl,?_,?_,?_,?_,?_⟩
    ·show t.segs++[_]=_;rw[h1.segs,hn];simp
    ·intro p hp;rcases List.mem_append.1 hp with hp|hp
     ·exact(h1.file p hp).keep (hk p hp)
     ·rw[List.mem_singleton.1 hp];have:=rollD_new o1 c3;rw[hn] at this;exact⟨this,fun r hr=>(by cases hr),fun k hk=>(by simp at hk),rfl,rfl⟩
    ·rw[chain_snoc];refine⟨h1.chain,List.length_pos_iff.2 hl,?_⟩;have:=h1.next;rw[hn] at this;simp only[];omega
    ·show t.next=s.next+_;rw[hn];simp
    ·exact h1.sure
   ·rw[if_neg c3];exact .inl ⟨c3,h1.disk _ hk⟩
  ·rw[if_pos c2];exact .inl ⟨c2,h1⟩
theorem rowS_snoc (l:List Rec) (r:Rec):rowS (l++[r])=rowS l++frameF (bodyF r):=by
 unfold rowS;rw[List.flatMap_append];simp[frameR]
theorem put_inv {k u:Nat} {f:Int} {s:Sto} {M:List SR} {g:Seg} {l:List Rec} (ho:okS k u s) (h:Inv f s M g l) (r:Rec) (hr:whyF r=0) (ha:r.at_=s.next) :
  ((putT s (putF r).1).2≠0∧Inv f (putT s (putF r).1).1 M g l)∨((putT s (putF r).1).2=0∧Inv f (putT s (putF r).1).1 M ⟨g.base,g.n+1,g.size+(frameF (bodyF r)).length⟩ (l++[r])):=by
 have hl:=h.last;have e1:(putF r).1=frameF (bodyF r):=by unfold putF;rw[if_pos hr]
 have hgm:g∈s.segs:=by rw[h.segs];simp
 have hk:∀ p∈M,hasD s.disk.files (fileN p.1.base) (rowS p.2)->hasD (chgF s.disk (appR s.disk.files s.disk.cap (fileN g.base) (frameF (bodyF r)))).1.files (fileN p.1.base) (rowS p.2):=by
  intro p hp hd;refine app_keep (s:=(s.disk,0)) (fun he=>?_) _ hd
  have hpm:p.1∈s.segs:=by rw[h.segs];exact List.mem_append_left _ (List.mem_map_of_mem hp)
  have:=fileN_inj (ho.seg _ hgm).1 (ho.seg _ hpm).1 he;have:=(chain_mem _ _ _ h.chain).2 p hp;omega
 have hg:=h.file (g,l) (by simp)
 have hnx:=h.next;unfold putT;simp only[hl,e1];by_cases c:(chgF s.disk (appR s.disk.files s.disk.cap (fileN g.base) (frameF (bodyF r)))).2=0
 ·rw[if_neg (by simp[c])]
  refine .inr ⟨rfl,?_,?_,h.chain,?_,?_⟩
  ·show s.segs.dropLast++[_]=_;rw[hl,h.segs];simp
  ·intro p hp;rcases List.mem_append.1 hp with hp|hp
   ·exact(h.file p (List.mem_append_left _ hp)).keep (hk p hp)
   ·rw[List.mem_singleton.1 hp];refine⟨?_,?_,?_,?_,?_⟩
    ·rw[rowS_snoc];exact app_new ho.dsk.srt hg.has c
    ·intro x hx;rcases List.mem_append.1 hx with hx|hx
     ·exact hg.why x hx
     ·rw[List.mem_singleton.1 hx];exact hr
    ·intro j hj;rw[List.length_append,List.length_singleton] at hj;rcases Nat.lt_or_ge j l.length with h3|h3
     ·rw[List.getElem_append_left h3];exact hg.num j h3
     ·have:j=l.length:=by omega
      subst this;simp only[List.getElem_concat_length];omega
    ·have:=hg.n;simp only[List.length_append,List.length_singleton] at this ⊢;omega
    ·have:=hg.size;rw[rowS_snoc];simp only[List.length_append] at this ⊢;omega
  ·show s.next+1=g.base+_;rw[List.length_append,List.length_singleton];omega
  ·have:=h.sure;show 0<=s.sure∧s.sure<=s.next+1;omega
 ·rw[if_pos c];refine .inl ⟨c,h.disk _ fun p hp hd=>?_⟩
  rw[chg_fail c];exact hd
structure Pr where
 key:Int
 val:List UInt8
 deriving DecidableEq
def Pr.enc (e:Pr):List D:=[.i .u8 e.key,.s e.val]
theorem Pr.len (e:Pr):e.enc.length=2:=Eq.trans rfl rfl
theorem Pr.tk (e:Pr):e.enc.take 2=e.enc:=Eq.trans rfl rfl
theorem Pr.tkL (e:Pr):(e.enc.map L.d).take 2=e.enc.map L.d:=Eq.trans rfl rfl
theorem Pr.dat (e:Pr):dataLs (e.enc.map L.d)=some (e.enc.map L.d):=Eq.trans rfl rfl
theorem Pr.rfs (e:Pr):(e.enc.map L.d).flatMap L.refs=[]:=Eq.trans rfl rfl
theorem Pr.rn (e:Pr) (g:Nat->Option Nat):(e.enc.map L.d).map (L.ren g)=e.enc.map L.d:=Eq.trans rfl rfl
theorem Pr.lenL (e:Pr):(e.enc.map L.d).length=2:=Eq.trans rfl rfl
theorem Pr.at0 (e:Pr):e.enc[0]?=some (.i .u8 e.key):=Eq.trans rfl rfl
theorem Pr.fd0 (e:Pr):(e.enc.map L.d)[0]?=some (.d (.i .u8 e.key)):=Eq.trans rfl rfl
theorem Pr.at1 (e:Pr):(e.enc.drop 1)[0]?=some (.s e.val):=Eq.trans rfl rfl
theorem Pr.fd1 (e:Pr):(e.enc.map L.d)[1]?=some (.d (.s e.val)):=Eq.trans rfl rfl
theorem Pr.up1 (e:Pr) (x:List UInt8):e.enc.take 1++[.s x]++e.enc.drop 2=({ e with val:=x }:Pr).enc:=Eq.trans rfl rfl
def Pr.ok (e:Pr):Prop:=(0<=e.key∧e.key<256)∧e.val.length<=9223372036854775807
def Pr.ty:List Ty:=[.i .u8,.s]
theorem Pr.eqs (a b:Pr):scEqs [0,2] (a.enc.map L.d) (b.enc.map L.d)=some (decide (a=b)):=by
 cases a;cases b;simp only[Pr.enc,List.map_cons,List.map_nil,scEqs,scEq,if_true,Pr.mk.injEq];congr 1
 rw[Bool.eq_iff_iff];simp only[Bool.and_eq_true,beq_iff_eq,decide_eq_true_eq,and_true]
theorem Pr.of (r:List D) (h:wfRow Pr.ty r):∃ e:Pr,r=e.enc∧e.ok:=by
 simp only[Pr.ty,wfRow,wfT] at h;obtain⟨_,_,rfl,⟨x0,rfl,h0,g0⟩,⟨_,_,rfl,⟨x1,rfl,h1⟩,rfl⟩⟩:=h;refine⟨⟨x0,x1⟩,rfl,?_⟩;exact⟨⟨Int.le_trans (by decide) h0,Int.lt_of_le_of_lt g0 (by decide)⟩,h1⟩
def prOk (p:Pr):Bool:=decide (1<=p.val.length) && decide (p.val.length<=63)
def keyAt (l:List Pr) (i:Nat):Int:=match l[i]? with|some p=>p.key|none=>0
def atOk (l:List Pr) (i:Nat):Bool:=match l[i]? with
 | some p=>prOk p && (decide (i=0) || decide (keyAt l (i-1)<p.key))
 | none=>true
def rightF (l:List Pr):Bool:=(List.range l.length).all (atOk l)
theorem right_from (l:List Pr) (i:Nat) (h:i<l.length):((List.range l.length).drop i).all (atOk l)=(atOk l i && ((List.range l.length).drop (i+1)).all (atOk l)):=by
 rw[List.drop_eq_getElem_cons (by simpa using h),List.all_cons,List.getElem_range]
theorem right_end (l:List Pr) (i:Nat) (h:l.length<=i):((List.range l.length).drop i).all (atOk l)=true:=by
 rw[List.drop_eq_nil_of_le (by simpa using h)];rfl
set_option maxHeartbeats 1000000 in
theorem right_ref (l:List Pr) (hl:l.length<=1000000):call 75 [vl (l.map Pr.enc)] []=some (vb (rightF l),[]):=by
 apply enterS s75 rfl;(simp(disch:=first|decide|omega|(intros;exact Eq.trans rfl rfl)|simp only[puri]) only[a75,go_sem,seval,dis])
 refine loop_boxM (m:=0) (σ:=Nat) (fun i=>l.length-i) (fun i=>i<=l.length∧rightF l=((List.range l.length).drop i).all (atOk l)) (fun i=>[vl (l.map Pr.enc),vi i]) (fun _=>[])
  (fun _=>(vb (rightF l),[])) ?_ 0 ⟨Nat.zero_le _,rfl⟩ _ _ hdM
 intro i ⟨h1,h2⟩ R hR;by_cases hi:i<l.length
 ·rw[right_from l i hi] at h2;have g1:(l.map Pr.enc)[i]?=some l[i].enc:=by simp[hi]
  have ha:atOk l i=(prOk l[i] && (decide (i=0) || decide (keyAt l (i-1)<l[i].key))):=by simp[atOk,hi]
  rw[ha] at h2;obtain⟨p,hp⟩:∃ p,p=l[i]:=⟨_,rfl⟩;rw[<- hp] at g1 h2;by_cases c1:(p.val.length:Int)<1
  ·have e:rightF l=false:=by rw[h2];simp[prOk];omega
   rw[e];(simp(disch:=first|decide|omega|(intros;exact Eq.trans rfl rfl)|simp only[puri]) only[a75_0,g1,Pr.enc,decide_eq_true c1,go_sem,seval,dis])
   try simp[trim]
  ·by_cases c2:(63:Int)<p.val.length
   ·have e:rightF l=false:=by rw[h2];simp[prOk];omega
    rw[e];(simp(disch:=first|decide|omega|(intros;exact Eq.trans rfl rfl)|simp only[puri]) only[a75_0,g1,Pr.enc,decide_eq_false c1,decide_eq_true c2,go_sem,seval,dis])
    try simp[trim]
   ·have hk:prOk p=true:=by simp[prOk];omega
    rw[hk,Bool.true_and] at h2;by_cases c3:i=0
    ·have hi0:¬ (0:Int)<(i:Int):=by omega
     rw[decide_eq_true c3,Bool.true_or,Bool.true_and] at h2;(simp(disch:=first|decide|omega|(intros;exact Eq.trans rfl rfl)|simp only[puri]) only[a75_0,g1,Pr.enc,decide_eq_false c1,decide_eq_false c2,decide_eq_false hi0,go_sem,seval,dis])
     exact hR (i+1) (by omega) ⟨by omega,h2⟩ _ _ hdM
    ·have hi0:(0:Int)<(i:Int):=by omega
     have hm:((i:Int)-1).toNat=i-1:=by omega
     have hm0:(0:Int)<=(i:Int)-1:=by omega
     have g2:(l.map Pr.enc)[i-1]?=some l[i-1].enc:=by rw[List.getElem?_map,List.getElem?_eq_getElem (by omega)];rfl
     have hq:keyAt l (i-1)=l[i-1].key:=by
      have:l[i-1]?=some l[i-1]:=List.getElem?_eq_getElem (by omega)
      simp[keyAt,this]
     rw[hq,decide_eq_false c3,Bool.false_or] at h2;obtain⟨q,hqe⟩:∃ q,q=l[i-1]:=⟨_,rfl⟩;rw[<- hqe] at g2 h2;by_cases c4:p.key<=q.key
     ·have e:rightF l=false:=by rw[h2,decide_eq_false (by omega)];rfl
      rw[e];(simp(disch:=first|decide|omega|(intros;exact Eq.trans rfl rfl)|simp only[puri]) only[a75_0,g1,g2,hm,hm0,Pr.enc,decide_eq_false c1,decide_eq_false c2,decide_eq_true hi0,decide_eq_true c4,go_sem,seval,dis])
      try simp[trim]
     ·rw[decide_eq_true (p:=q.key<p.key) (by omega),Bool.true_and] at h2
      (simp(disch:=first|decide|omega|(intros;exact Eq.trans rfl rfl)|simp only[puri]) only[a75_0,g1,g2,hm,hm0,Pr.enc,decide_eq_false c1,decide_eq_false c2,decide_eq_true hi0,decide_eq_false c4,go_sem,seval,dis])
      exact hR (i+1) (by omega) ⟨by omega,h2⟩ _ _ hdM
 ·have e:rightF l=true:=by rw[h2,right_end l i (by omega)]
  rw[e];(simp(disch:=first|decide|omega|(intros;exact Eq.trans rfl rfl)|simp only[puri]) only[a75_0,a75,go_sem,seval,dis])
  try simp[trim]
def pairF (s:List UInt8) (a:Nat):Option (Pr × Nat):=match rdF (s.drop (a+1)) 0 0 with
 | some (n,k)=>if s.length<a+1+k+n then none else some (⟨((s[a]?.getD 0).toNat:Int),(s.take (a+1+k+n)).drop (a+1+k)⟩,a+1+k+n)
 | none=>none
def parsF (s:List UInt8):Nat->Nat->List Pr->Option (List Pr × Nat)
 | 0,a,out=>some (out,a)
 | n+1,a,out=>match pairF s a with
  | some (p,b)=>parsF s n b (out++[p])
  | none=>none
def endF (s:List UInt8):Option (List Pr × Nat)->Option (List Pr)
 | some (out,a)=>if a=s.length∧rightF out=true then some out else none
 | none=>none
def parseF (s:List UInt8):Option (List Pr):=match rdF s 0 0 with
 | some (n,k)=>if 256<n then none else endF s (parsF s n k [])
 | none=>none
def parseV:Option (List Pr)->V
 | some l=>.tup [(false,[.d (.l (l.map Pr.enc))]),(false,[.d (.b true)])]
 | none=>.tup [(false,[.d (.l [])]),(false,[.d (.b false)])]
set_option maxRecDepth 4000 in
set_option maxHeartbeats 2000000 in
theorem parse_ref (s:List UInt8) (hs:s.length<=1000000000):call 40 [vs s] []=some (parseV (parseF s),[]):=by
 apply enterS s40 rfl;have h0:=refRead_spec s 0 (by decide) (by omega)
 rw[List.drop_zero] at h0;have z0:((0:Nat):Int)=0:=rfl;rw[z0] at h0;cases hn:rdF s 0 0 with
 | none =>
  have e:parseF s=none:=by simp only[parseF,hn]
  rw[hn] at h0;rw[e];(simp(disch:=first|decide|omega|(intros;exact Eq.trans rfl rfl)|simp only[puri]) only[a40,h0,rdV,parseV,go_sem,seval,dis])
  try simp[trim]
 | some q =>
  obtain⟨n,k⟩:=q;have hk:=(rdF_enc0 hn).2.1;rw[hn] at h0;by_cases c1:(256:Int)<(n:Int)
  ·have e:parseF s=none:=by simp only[parseF,hn];rw[if_pos (by omega)]
   rw[e];(simp(disch:=first|decide|omega|(intros;exact Eq.trans rfl rfl)|simp only[puri]) only[a40,h0,rdV,parseV,decide_eq_true c1,go_sem,seval,dis])
   try simp[trim]
  ·have e:parseF s=endF s (parsF s n k []):=by simp only[parseF,hn];rw[if_neg (by omega)]
   rw[e];have ek:(((0+k:Nat)):Int)=(k:Int):=by rw[Nat.zero_add]
   (simp(disch:=first|decide|omega|(intros;exact Eq.trans rfl rfl)|simp only[puri]) only[a40,h0,rdV,decide_eq_false c1,ek,go_sem,seval,dis])
   refine loop_boxM (m:=0) (σ:=Nat × Nat × List Pr) (fun t=>n-t.1) (fun t=>t.1<=n∧t.2.1<=s.length∧t.2.2.length=t.1∧parsF s n k []=parsF s (n-t.1) t.2.1 t.2.2) (fun t=>[vs s,vi n,vi t.2.1,V.one (.sl 0 2 0 t.2.2.length),vi t.1]) (fun t=>[.arr 2 (t.2.2.map Pr.enc) 0])
    (fun _=>(parseV (endF s (parsF s n k [])),[])) ?_ (0,k,[]) ⟨Nat.zero_le _,hk,rfl,rfl⟩ _ _ hdM
   rintro⟨i,a,out⟩ ⟨h1,h2,h3,h4⟩ R hR;simp only at h1 h2 h3 h4;by_cases hi:i<n
   ·by_cases ca:(s.length:Int)<=(a:Int)
    ·have e0:rdF (s.drop (a+1)) 0 0=none:=by rw[List.drop_eq_nil_of_le (by omega)];rfl
     obtain⟨m,hm⟩:∃ m,n-i=m+1:=⟨n-i-1,by omega⟩
     have e1:parsF s n k []=none:=by rw[h4,hm,parsF];simp only[pairF,e0]
     rw[e1];(simp(disch:=first|decide|omega|(intros;exact Eq.trans rfl rfl)|simp only[puri]) only[a40_0,decide_eq_true ca,parseV,endF,go_sem,seval,dis])
     try simp[trim]
    obtain⟨m,hm⟩:∃ m,n-i=m+1:=⟨n-i-1,by omega⟩
    rw[hm,parsF] at h4;have hr:=refRead_spec s (a+1) (by omega) (by omega)
    rw[Int.natCast_add,Int.natCast_one] at hr;cases hp:rdF (s.drop (a+1)) 0 0 with
    | none =>
     have e1:parsF s n k []=none:=by rw[h4];simp only[pairF,hp]
     rw[hp] at hr;rw[e1];(simp(disch:=first|decide|omega|(intros;exact Eq.trans rfl rfl)|simp only[puri]) only[a40_0,decide_eq_false ca,hr,rdV,parseV,endF,go_sem,seval,dis])
     try simp[trim]
    | some q =>
     obtain⟨w,j⟩:=q;have hj:=rdF_enc0 hp;have hjl:a+1+j<=s.length:=by have:=hj.2.1;rw[List.length_drop] at this;omega
     rw[hp] at hr;by_cases c2:(s.length:Int)-((a+1+j:Nat):Int)<(w:Int)
     ·have e1:parsF s n k []=none:=by rw[h4];simp only[pairF,hp];rw[if_pos (by omega)]
      rw[e1];(simp(disch:=first|decide|omega|(intros;exact Eq.trans rfl rfl)|simp only[puri]) only[a40_0,decide_eq_false ca,hr,rdV,parseV,endF,decide_eq_true c2,go_sem,seval,dis])
      try simp[trim]
     ·have ha:a<s.length:=by omega
      have hc:s[a]?=some s[a]:=List.getElem?_eq_getElem ha;have e1:pairF s a=some (⟨(s[a].toNat:Int),(s.take (a+1+j+w)).drop (a+1+j)⟩,a+1+j+w):=by
       simp only[pairF,hp];rw[if_neg (by omega),hc];rfl
      rw[e1] at h4;simp only at h4;have ew:(((a+1+j:Nat)):Int)+(w:Int)=((a+1+j+w:Nat):Int):=by omega
      have hw:(((a+1+j+w:Nat)):Int).toNat=a+1+j+w:=by omega
      (simp(disch:=first|decide|omega|(intros;exact Eq.trans rfl rfl)|simp only[puri]) only[a40_0,decide_eq_false ca,hr,rdV,decide_eq_false c2,hc,ew,go_sem,seval,dis])
      have hR':=hR ((i+1,a+1+j+w,out++[⟨(s[a].toNat:Int),(s.take (a+1+j+w)).drop (a+1+j)⟩])) (by first|omega|(simp only[];omega)) ⟨by omega,by simp only[];omega,by simp[h3],by rw[h4];congr 1;omega⟩;simp only[Pr.enc,List.length_append,List.length_cons,List.length_nil,Nat.zero_add,List.map_append,List.map_cons,List.map_nil] at hR';exact hR' _ _ hdM
   ·have hin:i=n:=by omega
    subst hin;rw[Nat.sub_self,parsF] at h4;rw[h4];have hr:=right_ref out (by omega)
    have ht:List.take out.length (out.map Pr.enc)=out.map Pr.enc:=List.take_of_length_le (by simp)
    by_cases c3:(a:Int)≠(s.length:Int)
    ·have e1:endF s (some (out,a))=none:=by simp only[endF];rw[if_neg (by omega)]
     rw[e1];(simp(disch:=first|decide|omega|(intros;exact Eq.trans rfl rfl)|simp only[puri]) only[a40_0,a40,bne_iff_ne.2 c3,parseV,go_sem,seval,dis])
     try simp[trim]
    ·have c3':((a:Int) != (s.length:Int))=false:=by simpa using c3
     cases hq:rightF out with
     | false =>
      have e1:endF s (some (out,a))=none:=by simp only[endF,hq];rw[if_neg (by simp)]
      rw[e1];rw[hq] at hr;(simp(disch:=first|decide|omega|(intros;exact Eq.trans rfl rfl)|simp only[puri]) only[a40_0,a40,c3',hr,ht,parseV,go_sem,seval,dis])
      try simp[trim]
     | true =>
      have e1:endF s (some (out,a))=some out:=by simp only[endF,hq];rw[if_pos ⟨by omega,trivial⟩]
      rw[e1];rw[hq] at hr;(simp(disch:=first|decide|omega|(intros;exact Eq.trans rfl rfl)|simp only[puri]) only[a40_0,a40,c3',hr,ht,parseV,go_sem,seval,dis])
      try simp[trim]
def stepF (l:List Pr):List UInt8->List Pr
 | []=>l
 | c::r=>l.takeWhile (fun p=>decide (p.key<(c.toNat:Int)))++(if r=[] then[] else[⟨(c.toNat:Int),r⟩])++l.filter (fun p=>decide ((c.toNat:Int)<p.key))
theorem tw_at (P:Pr->Bool) (l:List Pr) (i:Nat) (h:i<l.length):(l.drop i).takeWhile P=if P l[i]=true then l[i]::(l.drop (i+1)).takeWhile P else[]:=by
 rw[List.drop_eq_getElem_cons h,List.takeWhile_cons]
theorem take_one (l:List Pr) (i:Nat) (h:i<l.length):(l.take i).map Pr.enc++[l[i].enc]=(l.take (i+1)).map Pr.enc:=by
 rw[List.take_succ_eq_append_getElem h,List.map_append];rfl
theorem filt_one (Q:Pr->Bool) (l:List Pr) (i:Nat) (h:i<l.length):(l.take (i+1)).filter Q=(l.take i).filter Q++(if Q l[i]=true then[l[i]] else[]):=by
 rw[List.take_succ_eq_append_getElem h,List.filter_append];congr 1
 by_cases hq:Q l[i]=true <;> simp[hq]
theorem filt_len (Q:Pr->Bool) (l:List Pr) (i:Nat):((l.take i).filter Q).length<=l.length :=
 Nat.le_trans (List.length_filter_le _ _) (by simp;omega)
set_option maxRecDepth 4000 in
set_option maxHeartbeats 2000000 in
theorem step_ref (l:List Pr) (hl:l.length<=1000000) (d:List UInt8) (hd:d.length<=1000000):call 42 [vl (l.map Pr.enc),vs d] []=some (vl ((stepF l d).map Pr.enc),[]):=by
 apply enterS s42 rfl;have hok:okRows 2 (l.map Pr.enc)=true:=okRows_map Pr.len _;cases d with
 | nil =>
  have e0:(([]:List UInt8) == [])=true:=rfl;have ht:List.take l.length (l.map Pr.enc)=l.map Pr.enc:=List.take_of_length_le (by simp)
  (simp(disch:=first|decide|omega|(intros;exact Eq.trans rfl rfl)|simp only[puri]) only[a42,e0,hok,ht,go_sem,seval,dis])
  try simp[trim,stepF]
 | cons c r =>
  have e0:((c::r) == ([]:List UInt8))=false:=rfl;obtain⟨Z,hZ⟩:∃ Z:V × Hp,Z=(vl ((stepF l (c::r)).map Pr.enc),[]):=⟨_,rfl⟩;rw[<- hZ];have hc0:(c::r)[0]?=some c:=rfl;have hlr:(c::r).length<=1000000:=hd;obtain⟨dt,hD⟩:∃ dt,dt=c::r:=⟨_,rfl⟩;rw[<- hD] at hc0 e0 hlr hZ ⊢;(simp(disch:=first|decide|omega|(intros;exact Eq.trans rfl rfl)|simp only[puri]) only[a42,e0,go_sem,seval,dis])
  refine loop_boxM (m:=0) (σ:=Nat) (fun i=>l.length-i) (fun i=>i<=l.length∧l.takeWhile (fun p=>decide (p.key<(c.toNat:Int)))=l.take i++(l.drop i).takeWhile (fun p=>decide (p.key<(c.toNat:Int)))) (fun i=>[vl (l.map Pr.enc),vs dt,V.one (.sl 0 2 0 (l.take i).length),vi i]) (fun i=>[.arr 2 ((l.take i).map Pr.enc) 0])
   (fun _=>Z) ?_ 0 ⟨Nat.zero_le _,by simp⟩ _ _ hdM
  intro i ⟨h1,h2⟩ R hR;have key:l.takeWhile (fun p=>decide (p.key<(c.toNat:Int)))=l.take i->Z=(vl ((l.take i++(if r=[] then[] else[(⟨(c.toNat:Int),r⟩:Pr)])++l.filter (fun(p:Pr)=>decide ((c.toNat:Int)<p.key))).map Pr.enc),[]):=by
   intro he;rw[hZ,hD,stepF,he]
  have two:∀ (i:Nat) (h:i<l.length),(l.map Pr.enc)[i]?=some l[i].enc:=fun i h=>by rw[List.getElem?_map,List.getElem?_eq_getElem h];rfl
  have hlen:(l.take i).length=i:=by simp;omega
  have go:(i<l.length->keyAt l i<(c.toNat:Int))∨(i<l.length->¬ keyAt l i<(c.toNat:Int)):=by
   by_cases h:keyAt l i<(c.toNat:Int)
   ·exact .inl fun _=>h
   ·exact .inr fun _=>h
  have kat:∀ (i:Nat) (h:i<l.length),keyAt l i=l[i].key:=fun i h=>by
   have:l[i]?=some l[i]:=List.getElem?_eq_getElem h;simp[keyAt,this]
  by_cases hi:i<l.length∧keyAt l i<(c.toNat:Int)
  ·obtain⟨hi,c1⟩:=hi;have g1:=two i hi;rw[kat i hi] at c1;rw[tw_at _ l i hi,if_pos (decide_eq_true c1)] at h2;have ho:=take_one l i hi;have hl1:(l.take i).length+1=(l.take (i+1)).length:=by simp;omega
   have h3:l.takeWhile (fun p=>decide (p.key<(c.toNat:Int)))=l.take (i+1)++(l.drop (i+1)).takeWhile (fun p=>decide (p.key<(c.toNat:Int))):=by rw[h2,List.take_succ_eq_append_getElem hi,List.append_assoc];rfl
   obtain⟨p,hp⟩:∃ p,p=l[i]:=⟨_,rfl⟩;rw[<- hp] at g1 c1 ho;have hb:(l.take i).length<=1000000:=by omega
   obtain⟨B,hB⟩:∃ B,B=l.take i:=⟨_,rfl⟩;rw[<- hB] at ho hl1 hb ⊢;(simp(disch:=first|decide|omega|(intros;exact Eq.trans rfl rfl)|simp only[puri]) only[a42_0,g1,Pr.len,Pr.tk,Pr.tkL,Pr.at0,hc0,decide_eq_true c1,ho,hl1,go_sem,seval,dis])
   exact hR (i+1) (by omega) ⟨by omega,h3⟩ _ _ hdM
  ·have he:l.takeWhile (fun p=>decide (p.key<(c.toNat:Int)))=l.take i:=by
    rw[h2];by_cases hj:i<l.length
    ·rw[tw_at _ l i hj,if_neg ?_,List.append_nil];intro hc;exact hi ⟨hj,by rw[kat i hj];simpa using hc⟩
    ·rw[List.drop_eq_nil_of_le (by omega)];simp
   have hz:=key he;have hb:(l.take i).length<=1000000:=by omega
   clear key he h2 hR hlen;obtain⟨B,hB⟩:∃ B,B=l.take i:=⟨_,rfl⟩;rw[<- hB] at hz hb ⊢;clear hB;obtain⟨B',hB',hm,hl2⟩:∃ B':List Pr,B'=B++[⟨(c.toNat:Int),r⟩]∧B.map Pr.enc++[[.i .u8 (c.toNat:Int),.s r]]=B'.map Pr.enc∧B.length+1=B'.length:=⟨_,rfl,by simp[Pr.enc],by simp⟩
   have hdr:List.drop 1 dt=r:=by rw[hD];rfl
   have hdt:List.take dt.length dt=dt:=List.take_length;by_cases hr:r=[]
   ·have hdl:¬ (1:Int)<(dt.length:Int):=by rw[hD,hr];simp
    rw[if_pos hr,List.append_nil] at hz;clear hm hl2 hB' B';by_cases hj:i<l.length
    ·have g1:=two i hj;have c1:¬ l[i].key<(c.toNat:Int):=fun h=>hi ⟨hj,by rw[kat i hj];exact h⟩
     obtain⟨p,hp⟩:∃ p,p=l[i]:=⟨_,rfl⟩;rw[<- hp] at g1 c1;(simp(disch:=first|decide|omega|(intros;exact Eq.trans rfl rfl)|simp only[puri]) only[a42_0,a42,g1,Pr.len,Pr.tk,Pr.tkL,Pr.at0,hc0,decide_eq_false c1,decide_eq_false hdl,go_sem,seval,dis])
     refine loop_boxM (m:=0) (σ:=Nat) (fun j=>l.length-j) (fun j=>j<=l.length) (fun j=>[vl (l.map Pr.enc),vs dt,V.one (.sl 0 2 0 (B++(l.take j).filter (fun(p:Pr)=>decide ((c.toNat:Int)<p.key))).length),vi j]) (fun j=>[.arr 2 ((B++(l.take j).filter (fun(p:Pr)=>decide ((c.toNat:Int)<p.key))).map Pr.enc) 0])
      (fun _=>Z) ?_ 0 (Nat.zero_le _) _ _ (at_head2 (by decide) (by simp only[List.map_cons,List.map_nil,go_sem,seval];exact rfl) (by simp[idsOf,reach,place_cons,place_nil,canonH,V.ren,L.ren,Box.ren,V.refs,L.refs,Box.refs,List.append_nil]) (by simp[idsOf,reach,place_cons,place_nil,canonH,V.ren,L.ren,Box.ren,V.refs,L.refs,Box.refs,List.append_nil]))
     intro j h1 R hR;by_cases hi:j<l.length
     ·have g1:=two j hi;have hf:=filt_one (fun(p:Pr)=>decide ((c.toNat:Int)<p.key)) l j hi
      have hfl:=filt_len (fun(p:Pr)=>decide ((c.toNat:Int)<p.key)) l j
      obtain⟨p,hp⟩:∃ p,p=l[j]:=⟨_,rfl⟩;rw[<- hp] at g1 hf;by_cases c2:(c.toNat:Int)<p.key
      ·rw[if_pos (decide_eq_true c2)] at hf;have hR':=hR (j+1) (by omega) (by omega)
       rw[hf] at hR';obtain⟨C,hC⟩:∃ C,C=B++(l.take j).filter (fun(p:Pr)=>decide ((c.toNat:Int)<p.key)):=⟨_,rfl⟩
       have hcl:C.length<=2000001:=by rw[hC,List.length_append];omega
       rw[<- List.append_assoc,<- hC] at hR';rw[<- hC];obtain⟨C',hC',hm1,hm2⟩:∃ C':List Pr,C++[p]=C'∧C.map Pr.enc++[p.enc]=C'.map Pr.enc∧C.length+1=C'.length:=⟨_,rfl,by simp,by simp⟩
       rw[hC'] at hR';(simp(disch:=first|decide|omega|(intros;exact Eq.trans rfl rfl)|simp only[puri]) only[a42_1,g1,Pr.len,Pr.tk,Pr.tkL,Pr.at0,hc0,decide_eq_true c2,hm1,hm2,go_sem,seval,dis])
       exact hR' _ _ hdM
      ·rw[if_neg (by simpa using c2),List.append_nil] at hf
       have hR':=hR (j+1) (by omega) (by omega)
       rw[hf] at hR';generalize B++(l.take j).filter (fun(p:Pr)=>decide ((c.toNat:Int)<p.key))=C at hR' ⊢
       (simp(disch:=first|decide|omega|(intros;exact Eq.trans rfl rfl)|simp only[puri]) only[a42_1,g1,Pr.len,Pr.tk,Pr.tkL,Pr.at0,hc0,decide_eq_false c2,go_sem,seval,dis])
       exact hR' _ _ hdM
     ·have hj2:l.take j=l:=List.take_of_length_le (by omega)
      rw[hj2];obtain⟨C,hC⟩:∃ C,C=B++l.filter (fun(p:Pr)=>decide ((c.toNat:Int)<p.key)):=⟨_,rfl⟩
      rw[<- hC] at hz ⊢;rw[hz];have ht:List.take C.length (C.map Pr.enc)=C.map Pr.enc:=List.take_of_length_le (by simp)
      (simp(disch:=first|decide|omega|(intros;exact Eq.trans rfl rfl)|simp only[puri]) only[a42_1,a42,ht,go_sem,seval,dis])
      try simp[trim]
    ·(simp(disch:=first|decide|omega|(intros;exact Eq.trans rfl rfl)|simp only[puri]) only[a42_0,a42,decide_eq_false hdl,go_sem,seval,dis])
     refine loop_boxM (m:=0) (σ:=Nat) (fun j=>l.length-j) (fun j=>j<=l.length) (fun j=>[vl (l.map Pr.enc),vs dt,V.one (.sl 0 2 0 (B++(l.take j).filter (fun(p:Pr)=>decide ((c.toNat:Int)<p.key))).length),vi j]) (fun j=>[.arr 2 ((B++(l.take j).filter (fun(p:Pr)=>decide ((c.toNat:Int)<p.key))).map Pr.enc) 0])
      (fun _=>Z) ?_ 0 (Nat.zero_le _) _ _ (at_head2 (by decide) (by simp only[List.map_cons,List.map_nil,go_sem,seval];exact rfl) (by simp[idsOf,reach,place_cons,place_nil,canonH,V.ren,L.ren,Box.ren,V.refs,L.refs,Box.refs,List.append_nil]) (by simp[idsOf,reach,place_cons,place_nil,canonH,V.ren,L.ren,Box.ren,V.refs,L.refs,Box.refs,List.append_nil]))
     intro j h1 R hR;by_cases hi:j<l.length
     ·have g1:=two j hi;have hf:=filt_one (fun(p:Pr)=>decide ((c.toNat:Int)<p.key)) l j hi
      have hfl:=filt_len (fun(p:Pr)=>decide ((c.toNat:Int)<p.key)) l j
      obtain⟨p,hp⟩:∃ p,p=l[j]:=⟨_,rfl⟩;rw[<- hp] at g1 hf;by_cases c2:(c.toNat:Int)<p.key
      ·rw[if_pos (decide_eq_true c2)] at hf;have hR':=hR (j+1) (by omega) (by omega)
       rw[hf] at hR';obtain⟨C,hC⟩:∃ C,C=B++(l.take j).filter (fun(p:Pr)=>decide ((c.toNat:Int)<p.key)):=⟨_,rfl⟩
       have hcl:C.length<=2000001:=by rw[hC,List.length_append];omega
       rw[<- List.append_assoc,<- hC] at hR';rw[<- hC];obtain⟨C',hC',hm1,hm2⟩:∃ C':List Pr,C++[p]=C'∧C.map Pr.enc++[p.enc]=C'.map Pr.enc∧C.length+1=C'.length:=⟨_,rfl,by simp,by simp⟩
       rw[hC'] at hR';(simp(disch:=first|decide|omega|(intros;exact Eq.trans rfl rfl)|simp only[puri]) only[a42_1,g1,Pr.len,Pr.tk,Pr.tkL,Pr.at0,hc0,decide_eq_true c2,hm1,hm2,go_sem,seval,dis])
       exact hR' _ _ hdM
      ·rw[if_neg (by simpa using c2),List.append_nil] at hf
       have hR':=hR (j+1) (by omega) (by omega)
       rw[hf] at hR';generalize B++(l.take j).filter (fun(p:Pr)=>decide ((c.toNat:Int)<p.key))=C at hR' ⊢
       (simp(disch:=first|decide|omega|(intros;exact Eq.trans rfl rfl)|simp only[puri]) only[a42_1,g1,Pr.len,Pr.tk,Pr.tkL,Pr.at0,hc0,decide_eq_false c2,go_sem,seval,dis])
       exact hR' _ _ hdM
     ·have hj2:l.take j=l:=List.take_of_length_le (by omega)
      rw[hj2];obtain⟨C,hC⟩:∃ C,C=B++l.filter (fun(p:Pr)=>decide ((c.toNat:Int)<p.key)):=⟨_,rfl⟩
      rw[<- hC] at hz ⊢;rw[hz];have ht:List.take C.length (C.map Pr.enc)=C.map Pr.enc:=List.take_of_length_le (by simp)
      (simp(disch:=first|decide|omega|(intros;exact Eq.trans rfl rfl)|simp only[puri]) only[a42_1,a42,ht,go_sem,seval,dis])
      try simp[trim]
   ·have hdl:(1:Int)<(dt.length:Int):=by
     rw[hD];have:=List.length_pos_iff.2 hr;simp;omega
    rw[if_neg hr,<- hB'] at hz;have hb:B'.length<=1000001:=by omega
    by_cases hj:i<l.length
    ·have g1:=two i hj;have c1:¬ l[i].key<(c.toNat:Int):=fun h=>hi ⟨hj,by rw[kat i hj];exact h⟩
     obtain⟨p,hp⟩:∃ p,p=l[i]:=⟨_,rfl⟩;rw[<- hp] at g1 c1;(simp(disch:=first|decide|omega|(intros;exact Eq.trans rfl rfl)|simp only[puri]) only[a42_0,a42,g1,Pr.len,Pr.tk,Pr.tkL,Pr.at0,hc0,hdt,hdr,decide_eq_false c1,decide_eq_true hdl,hm,hl2,go_sem,seval,dis])
     refine loop_boxM (m:=0) (σ:=Nat) (fun j=>l.length-j) (fun j=>j<=l.length) (fun j=>[vl (l.map Pr.enc),vs dt,V.one (.sl 0 2 0 (B'++(l.take j).filter (fun(p:Pr)=>decide ((c.toNat:Int)<p.key))).length),vi j]) (fun j=>[.arr 2 ((B'++(l.take j).filter (fun(p:Pr)=>decide ((c.toNat:Int)<p.key))).map Pr.enc) 0])
      (fun _=>Z) ?_ 0 (Nat.zero_le _) _ _ (at_head2 (by decide) (by simp only[List.map_cons,List.map_nil,go_sem,seval];exact rfl) (by simp[idsOf,reach,place_cons,place_nil,canonH,V.ren,L.ren,Box.ren,V.refs,L.refs,Box.refs,List.append_nil]) (by simp[idsOf,reach,place_cons,place_nil,canonH,V.ren,L.ren,Box.ren,V.refs,L.refs,Box.refs,List.append_nil]))
     intro j h1 R hR;by_cases hi:j<l.length
     ·have g1:=two j hi;have hf:=filt_one (fun(p:Pr)=>decide ((c.toNat:Int)<p.key)) l j hi
      have hfl:=filt_len (fun(p:Pr)=>decide ((c.toNat:Int)<p.key)) l j
      obtain⟨p,hp⟩:∃ p,p=l[j]:=⟨_,rfl⟩;rw[<- hp] at g1 hf;by_cases c2:(c.toNat:Int)<p.key
      ·rw[if_pos (decide_eq_true c2)] at hf;have hR':=hR (j+1) (by omega) (by omega)
       rw[hf] at hR';obtain⟨C,hC⟩:∃ C,C=B'++(l.take j).filter (fun(p:Pr)=>decide ((c.toNat:Int)<p.key)):=⟨_,rfl⟩
       have hcl:C.length<=2000001:=by rw[hC,List.length_append];omega
       rw[<- List.append_assoc,<- hC] at hR';rw[<- hC];obtain⟨C',hC',hm1,hm2⟩:∃ C':List Pr,C++[p]=C'∧C.map Pr.enc++[p.enc]=C'.map Pr.enc∧C.length+1=C'.length:=⟨_,rfl,by simp,by simp⟩
       rw[hC'] at hR';(simp(disch:=first|decide|omega|(intros;exact Eq.trans rfl rfl)|simp only[puri]) only[a42_1,g1,Pr.len,Pr.tk,Pr.tkL,Pr.at0,hc0,decide_eq_true c2,hm1,hm2,go_sem,seval,dis])
       exact hR' _ _ hdM
      ·rw[if_neg (by simpa using c2),List.append_nil] at hf
       have hR':=hR (j+1) (by omega) (by omega)
       rw[hf] at hR';generalize B'++(l.take j).filter (fun(p:Pr)=>decide ((c.toNat:Int)<p.key))=C at hR' ⊢
       (simp(disch:=first|decide|omega|(intros;exact Eq.trans rfl rfl)|simp only[puri]) only[a42_1,g1,Pr.len,Pr.tk,Pr.tkL,Pr.at0,hc0,decide_eq_false c2,go_sem,seval,dis])
       exact hR' _ _ hdM
     ·have hj2:l.take j=l:=List.take_of_length_le (by omega)
      rw[hj2];obtain⟨C,hC⟩:∃ C,C=B'++l.filter (fun(p:Pr)=>decide ((c.toNat:Int)<p.key)):=⟨_,rfl⟩
      rw[<- hC] at hz ⊢;rw[hz];have ht:List.take C.length (C.map Pr.enc)=C.map Pr.enc:=List.take_of_length_le (by simp)
      (simp(disch:=first|decide|omega|(intros;exact Eq.trans rfl rfl)|simp only[puri]) only[a42_1,a42,ht,go_sem,seval,dis])
      try simp[trim]
    ·(simp(disch:=first|decide|omega|(intros;exact Eq.trans rfl rfl)|simp only[puri]) only[a42_0,a42,hc0,hdt,hdr,decide_eq_true hdl,hm,hl2,go_sem,seval,dis])
     refine loop_boxM (m:=0) (σ:=Nat) (fun j=>l.length-j) (fun j=>j<=l.length) (fun j=>[vl (l.map Pr.enc),vs dt,V.one (.sl 0 2 0 (B'++(l.take j).filter (fun(p:Pr)=>decide ((c.toNat:Int)<p.key))).length),vi j]) (fun j=>[.arr 2 ((B'++(l.take j).filter (fun(p:Pr)=>decide ((c.toNat:Int)<p.key))).map Pr.enc) 0])
      (fun _=>Z) ?_ 0 (Nat.zero_le _) _ _ (at_head2 (by decide) (by simp only[List.map_cons,List.map_nil,go_sem,seval];exact rfl) (by simp[idsOf,reach,place_cons,place_nil,canonH,V.ren,L.ren,Box.ren,V.refs,L.refs,Box.refs,List.append_nil]) (by simp[idsOf,reach,place_cons,place_nil,canonH,V.ren,L.ren,Box.ren,V.refs,L.refs,Box.refs,List.append_nil]))
     intro j h1 R hR;by_cases hi:j<l.length
     ·have g1:=two j hi;have hf:=filt_one (fun(p:Pr)=>decide ((c.toNat:Int)<p.key)) l j hi
      have hfl:=filt_len (fun(p:Pr)=>decide ((c.toNat:Int)<p.key)) l j
      obtain⟨p,hp⟩:∃ p,p=l[j]:=⟨_,rfl⟩;rw[<- hp] at g1 hf;by_cases c2:(c.toNat:Int)<p.key
      ·rw[if_pos (decide_eq_true c2)] at hf;have hR':=hR (j+1) (by omega) (by omega)
       rw[hf] at hR';obtain⟨C,hC⟩:∃ C,C=B'++(l.take j).filter (fun(p:Pr)=>decide ((c.toNat:Int)<p.key)):=⟨_,rfl⟩
       have hcl:C.length<=2000001:=by rw[hC,List.length_append];omega
       rw[<- List.append_assoc,<- hC] at hR';rw[<- hC];obtain⟨C',hC',hm1,hm2⟩:∃ C':List Pr,C++[p]=C'∧C.map Pr.enc++[p.enc]=C'.map Pr.enc∧C.length+1=C'.length:=⟨_,rfl,by simp,by simp⟩
       rw[hC'] at hR';(simp(disch:=first|decide|omega|(intros;exact Eq.trans rfl rfl)|simp only[puri]) only[a42_1,g1,Pr.len,Pr.tk,Pr.tkL,Pr.at0,hc0,decide_eq_true c2,hm1,hm2,go_sem,seval,dis])
       exact hR' _ _ hdM
      ·rw[if_neg (by simpa using c2),List.append_nil] at hf
       have hR':=hR (j+1) (by omega) (by omega)
       rw[hf] at hR';generalize B'++(l.take j).filter (fun(p:Pr)=>decide ((c.toNat:Int)<p.key))=C at hR' ⊢
       (simp(disch:=first|decide|omega|(intros;exact Eq.trans rfl rfl)|simp only[puri]) only[a42_1,g1,Pr.len,Pr.tk,Pr.tkL,Pr.at0,hc0,decide_eq_false c2,go_sem,seval,dis])
       exact hR' _ _ hdM
     ·have hj2:l.take j=l:=List.take_of_length_le (by omega)
      rw[hj2];obtain⟨C,hC⟩:∃ C,C=B'++l.filter (fun(p:Pr)=>decide ((c.toNat:Int)<p.key)):=⟨_,rfl⟩
      rw[<- hC] at hz ⊢;rw[hz];have ht:List.take C.length (C.map Pr.enc)=C.map Pr.enc:=List.take_of_length_le (by simp)
      (simp(disch:=first|decide|omega|(intros;exact Eq.trans rfl rfl)|simp only[puri]) only[a42_1,a42,ht,go_sem,seval,dis])
      try simp[trim]
def prB (p:Pr):List UInt8:=UInt8.ofNat p.key.toNat::(enc128 p.val.length++p.val)
def bytesF (l:List Pr):List UInt8:=enc128 l.length++l.flatMap prB
set_option maxRecDepth 4000 in
set_option maxHeartbeats 2000000 in
theorem bytes_ref (l:List Pr) (hl:l.length<=1000000) (hb:(bytesF l).length<=1000000000) (hk:∀ p∈l,0<=p.key∧p.key<256):call 117 [vl (l.map Pr.enc)] []=some (vs (bytesF l),[]):=by
 apply enterS s117 rfl;have h0:=refPut_spec l.length (by omega)
 (simp(disch:=first|decide|omega|(intros;exact Eq.trans rfl rfl)|simp only[puri]) only[a117,h0,go_sem,seval,dis])
 refine loop_boxM (m:=0) (σ:=Nat) (fun i=>l.length-i) (fun i=>i<=l.length) (fun i=>[vl (l.map Pr.enc),vs (enc128 l.length++(l.take i).flatMap prB),vi i]) (fun _=>[])
  (fun _=>(vs (bytesF l),[])) ?_ 0 (Nat.zero_le _) _ _ (at_head2 (by decide) (by simp only[List.map_cons,List.map_nil,go_sem,seval];exact rfl) (by simp[idsOf,reach,place_cons,place_nil,canonH,V.ren,L.ren,Box.ren,V.refs,L.refs,Box.refs,List.append_nil]) (by simp[idsOf,reach,place_cons,place_nil,canonH,V.ren,L.ren,Box.ren,V.refs,L.refs,Box.refs,List.append_nil]))
 intro i h1 R hR;by_cases hi:i<l.length
 ·have g1:(l.map Pr.enc)[i]?=some l[i].enc:=by rw[List.getElem?_map,List.getElem?_eq_getElem hi];rfl
  have hnx:enc128 l.length++(l.take (i+1)).flatMap prB=(enc128 l.length++(l.take i).flatMap prB)++prB l[i]:=by
   rw[List.take_succ_eq_append_getElem hi,List.flatMap_append];simp
  have hle:((enc128 l.length++(l.take i).flatMap prB)++prB l[i]).length<=1000000000:=by
   rw[<- hnx];refine Nat.le_trans ?_ hb;have e:l.flatMap prB=(l.take (i+1)).flatMap prB++(l.drop (i+1)).flatMap prB:=by rw[<- List.flatMap_append,List.take_append_drop]
   rw[bytesF,e];simp;try omega
  have hR':=hR (i+1) (by omega) (by omega)
  rw[hnx] at hR';obtain⟨p,hp⟩:∃ p,p=l[i]:=⟨_,rfl⟩;rw[<- hp] at g1 hle hR';obtain⟨S,hS⟩:∃ S,S=enc128 l.length++(l.take i).flatMap prB:=⟨_,rfl⟩;rw[<- hS] at hle hR' ⊢;have hpb:(prB p).length=1+(enc128 p.val.length).length+p.val.length:=by simp[prB];omega
  rw[List.length_append] at hle;have hput:=refPut_spec p.val.length (by omega)
  have hbo:bytesOf [[.i .u8 p.key]]=some [UInt8.ofNat p.key.toNat]:=rfl;rw[show S++prB p=((S++[UInt8.ofNat p.key.toNat])++enc128 p.val.length)++p.val by simp[prB]] at hR'
  rw[hpb] at hle;obtain⟨E,hE⟩:∃ E,E=enc128 p.val.length:=⟨_,rfl⟩;rw[<- hE] at hR' hput hle;have q1:(S++[UInt8.ofNat p.key.toNat]).length=S.length+1:=by simp
  have q2:((S++[UInt8.ofNat p.key.toNat])++E).length=S.length+1+E.length:=by simp;omega
  obtain⟨S1,hS1⟩:∃ S1,S1=S++[UInt8.ofNat p.key.toNat]:=⟨_,rfl⟩;rw[<- hS1] at q1 q2 hR';obtain⟨S2,hS2⟩:∃ S2,S2=S1++E:=⟨_,rfl⟩;rw[<- hS2] at q2 hR';(simp(disch:=first|decide|omega|(intros;exact Eq.trans rfl rfl)|simp only[puri]) only[a117_0,g1,Pr.len,Pr.tk,Pr.tkL,Pr.at0,Pr.at1,hbo,hput,<- hS1,<- hS2,go_sem,seval,dis,vdr,A.kind,A.xs,optX,A.isN])
  exact hR' _ _ hdM
 ·have ht:l.take i=l:=List.take_of_length_le (by omega)
  rw[ht];(simp(disch:=first|decide|omega|(intros;exact Eq.trans rfl rfl)|simp only[puri]) only[a117_0,a117,go_sem,seval,dis,vdr,A.kind,A.xs,optX,A.isN])
  try simp[trim,bytesF]
structure SZ (seg:Int) (M:List SR) (g:Seg):Prop where
 old:∀ p∈M,seg<=p.1.size∧p.1.size<=seg+90
 last:g.size<=seg+90
def Hold (f seg:Int) (s:Sto) (R:List Rec):Prop:=∃ M g l,Inv f s M g l∧SZ seg M g∧recsM (M++[(g,l)])=R
theorem Hold.next {f seg:Int} {s:Sto} {R:List Rec} (h:Hold f seg s R):s.next=f+R.length:=by
 obtain⟨M,g,l,hi,_,rfl⟩:=h;have:=chain_len _ _ _ hi.chain;rw[recsM_app,recsM_one,List.length_append,hi.next];simp only[];omega
theorem Hold.sure {f seg:Int} {s:Sto} {R:List Rec} (h:Hold f seg s R):0<=s.sure∧s.sure<=s.next:=by
 obtain⟨M,g,l,hi,_,rfl⟩:=h;exact hi.sure
theorem roll_mono {k u:Nat} {s:Sto} (ho:okS k u s) (h:s.sure<=s.next):s.sure<=(rollT s).1.sure:=by
 have:=sync_mono ho h;unfold rollT;split
 ·exact Int.le_refl _
 ·split
  ·exact this
  ·split <;> exact this
theorem Hold.floor {f seg:Int} {s:Sto} {R:List Rec} (h:Hold f seg s R):s.floor=f:=by
 obtain⟨M,g,l,hi,_,rfl⟩:=h;unfold Sto.floor;rw[hi.segs];cases hM:M with
 | nil=>have:=hi.chain;rw[hM] at this;simp only[chainM] at this;simp[this]
 | cons q M'=>have:=hi.chain;rw[hM] at this;simp[this.1]
theorem rnamed_spec (s:Txt):call 20 [vs s] []=some (vb (namedF s),[]):=by
 apply enterS s20 rfl;unfold namedF;cases s with
 | nil=>(simp(disch:=first|decide|omega|(intros;exact Eq.trans rfl rfl)|simp only[puri]) only[a20,go_sem,seval,dis]);try rfl
 | cons a r =>
  have h1:(1:Int)<=((a::r).length:Nat):=by simp;omega
  generalize hq:(a::r)=q at *;have h2:q≠[]:=by rw[<- hq];simp
  by_cases c:q.length<=32
  ·(simp(disch:=first|decide|omega|(intros;exact Eq.trans rfl rfl)|simp only[puri]) only[a20,h1,c,go_sem,seval,dis])
   simp[h2]
  ·(simp(disch:=first|decide|omega|(intros;exact Eq.trans rfl rfl)|simp only[puri]) only[a20,h1,c,go_sem,seval,dis])
   simp[h2]
def findI (l:List Fil) (n:Txt):Int:=if hasF l n=true then(posF l n:Nat) else -1
theorem name_at_iff {l:List Fil} (hs:srt l) (n:Txt) (i:Nat) (h:i<l.length):l[i].name=n↔(hasF l n=true∧i=posF l n):=by
 constructor
 ·rintro rfl;exact⟨has_true hs (List.getElem_mem h),(pos_of hs i h).symm⟩
 ·rintro⟨h1,rfl⟩;obtain⟨hp,he⟩:=has_at h1;exact he
theorem rfind_spec (d:Dsk) (hl:d.files.length<=1000000) (hs:srt d.files) (n:Txt):call 60 [.agg d.l,vs n] []=some (vi (findI d.files n),[]):=by
 apply enterS s60 rfl;obtain⟨fl,cp,ar,lf,dn⟩:=d;simp only at hl hs ⊢;obtain⟨Z,hZ⟩:∃ Z:V,Z=vi (findI fl n):=⟨_,rfl⟩;rw[<- hZ];(simp(disch:=first|decide|omega|(intros;exact Eq.trans rfl rfl)|simp only[puri]) only[a60,Dsk.l,go_sem,seval,dis])
 refine loop_boxM (m:=0) (σ:=Nat) (fun i=>fl.length-i) (fun i=>i<=fl.length∧(hasF fl n=true->i<=posF fl n)) (fun i=>[vs n,V.one (.p 0 0),vi i])
  (fun _=>[.cells [.d (.l (fl.map Fil.enc)),.d (.i .i64 cp),.d (.b ar),.d (.i .i64 lf),.d (.b dn)]]) (fun _=>(Z,[])) ?_ 0 ⟨Nat.zero_le _,fun _=>Nat.zero_le _⟩ _ _ ?_
 rotate_left
 ·exact hdM
 rintro i ⟨hi,hp⟩ R hR;by_cases c:i<fl.length
 ·have g1:(fl.map Fil.enc)[i]?=some fl[i].enc:=by simp[c]
  have hk:=name_at_iff hs n i c;by_cases c2:fl[i].name=n
  ·have e:(fl[i].name == n)=true:=by rw[c2];exact beq_self_eq_true _
   obtain⟨h1,h2⟩:=hk.1 c2;have hz:findI fl n=i:=by unfold findI;rw[if_pos h1,<- h2]
   rw[hz] at hZ;(simp(disch:=first|decide|omega|(intros;exact Eq.trans rfl rfl)|simp only[puri]) only[a60_0,c,g1,Fil.len,Fil.at0,e,go_sem,seval,dis])
   rw[hZ];try simp[trim]
  ·have e:(fl[i].name == n)=false:=by rw[beq_eq_false_iff_ne];exact c2
   (simp(disch:=first|decide|omega|(intros;exact Eq.trans rfl rfl)|simp only[puri]) only[a60_0,c,g1,Fil.len,Fil.at0,e,go_sem,seval,dis])
   exact hR (i+1) (by omega) ⟨by omega,fun h=>by
    have:=hp h;rcases Nat.lt_or_ge i (posF fl n) with h3|h3
    ·omega
    ·exact absurd (hk.2 ⟨h,by omega⟩) c2⟩ _ _ hdM
 ·have hz:findI fl n = -1:=by
   unfold findI;rw[if_neg];intro h;obtain⟨h1,_⟩:=has_at h;have:=hp h;omega
  rw[hz] at hZ;(simp(disch:=first|decide|omega|(intros;exact Eq.trans rfl rfl)|simp only[puri]) only[a60_0,c,go_sem,seval,dis])
  rw[hZ];try simp[trim]
theorem rused_spec (d:Dsk) (hl:d.files.length<=1000000) (hu:usedF d.files<=1000000000000):call 83 [.agg d.l] []=some (vi (usedF d.files:Nat),[]):=by
 apply enterS s83 rfl;obtain⟨fl,cp,ar,lf,dn⟩:=d;simp only at hl hu ⊢;(simp(disch:=first|decide|omega|(intros;exact Eq.trans rfl rfl)|simp only[puri]) only[a83,Dsk.l,go_sem,seval,dis])
 refine loop_boxM (m:=0) (σ:=Nat) (fun i=>fl.length-i) (fun i=>i<=fl.length) (fun i=>[V.one (.p 0 0),vi (usedF (fl.take i):Nat),vi i])
  (fun _=>[.cells [.d (.l (fl.map Fil.enc)),.d (.i .i64 cp),.d (.b ar),.d (.i .i64 lf),.d (.b dn)]]) (fun _=>(vi (usedF fl:Nat),[])) ?_ 0 (Nat.zero_le _) _ _ ?_
 rotate_left
 ·exact hdM
 intro i hi R hR;by_cases c:i<fl.length
 ·have g1:(fl.map Fil.enc)[i]?=some fl[i].enc:=by simp[c]
  have hK:=hR (i+1) (by omega) (by omega)
  have e1:usedF (fl.take (i+1))=usedF (fl.take i)+fl[i].data.length:=by rw[List.take_succ_eq_append_getElem c,used_app,used_one]
  have h2:=used_take fl (i+1);rw[e1] at hK h2;have e2:((usedF (fl.take i)+fl[i].data.length:Nat):Int)=(usedF (fl.take i):Int)+(fl[i].data.length:Int):=by omega
  rw[e2] at hK;(simp(disch:=first|decide|omega|(intros;exact Eq.trans rfl rfl)|simp only[puri]) only[a83_0,c,g1,Fil.len,Fil.at1,go_sem,seval,dis])
  exact hK _ _ hdM
 ·have e:fl.take i=fl:=List.take_of_length_le (by omega)
  rw[e];(simp(disch:=first|decide|omega|(intros;exact Eq.trans rfl rfl)|simp only[puri]) only[a83_0,c,go_sem,seval,dis])
  try simp[trim]
def woF (l:List Fil) (n:Txt):List Fil:=l.filter fun f=>decide (f.name≠n)
def wiF (l:List Fil) (f:Fil):List Fil:=insF (woF l f.name) (posF (woF l f.name) f.name) f
theorem woF_len (l:List Fil) (n:Txt):(woF l n).length<=l.length:=List.length_filter_le _ _
theorem woF_srt {l:List Fil} (hs:srt l) (n:Txt):srt (woF l n):=List.Pairwise.filter _ hs
theorem without_spec (l:List Fil) (hl:l.length<=1000000) (n:Txt):call 115 [vl (l.map Fil.enc),vs n] []=some (vl ((woF l n).map Fil.enc),[]):=by
 apply enterS s115 rfl;obtain⟨Z,hZ⟩:∃ Z:V,Z=vl ((woF l n).map Fil.enc):=⟨_,rfl⟩;rw[<- hZ];(simp(disch:=first|decide|omega|(intros;exact Eq.trans rfl rfl)|simp only[puri]) only[a115,go_sem,seval,dis])
 refine loop_boxM (m:=0) (σ:=Nat) (fun i=>l.length-i) (fun i=>i<=l.length) (fun i=>[vl (l.map Fil.enc),vs n,V.one (.sl 0 3 0 (woF (l.take i) n).length),vi i])
  (fun i=>[.arr 3 ((woF (l.take i) n).map Fil.enc) 0]) (fun _=>(Z,[])) ?_ 0 (Nat.zero_le _) _ _ ?_
 rotate_left
 ·exact hdM
 intro i hi R hR;have hln:((woF (l.take i) n).map Fil.enc).length=(woF (l.take i) n).length:=by simp
 have hle:(woF (l.take i) n).length<=1000000:=Nat.le_trans (woF_len _ _) (by simp;omega)
 by_cases c:i<l.length
 ·have g1:(l.map Fil.enc)[i]?=some l[i].enc:=by simp[c]
  have hK:=hR (i+1) (by omega) (by omega)
  by_cases c2:l[i].name=n
  ·have e:(l[i].name == n)=true:=by rw[c2];exact beq_self_eq_true _
   have e1:woF (l.take (i+1)) n=woF (l.take i) n:=by
    rw[List.take_succ_eq_append_getElem c];unfold woF;rw[List.filter_append];simp[c2]
   rw[e1] at hK;(simp(disch:=first|decide|omega|(intros;exact Eq.trans rfl rfl)|simp only[puri]) only[a115_0,c,g1,Fil.len,Fil.at0,e,go_sem,seval,dis])
   exact hK _ _ hdM
  ·have e:(l[i].name == n)=false:=by rw[beq_eq_false_iff_ne];exact c2
   have e1:woF (l.take (i+1)) n=woF (l.take i) n++[l[i]]:=by
    rw[List.take_succ_eq_append_getElem c];unfold woF;rw[List.filter_append];simp[c2]
   rw[e1,List.map_append,List.length_append,List.length_singleton] at hK;generalize (woF (l.take i) n).map Fil.enc=Q at *;generalize (woF (l.take i) n).length=q at *;generalize l[i]=f at *;obtain⟨fn,fd,fs⟩:=f;simp only[Fil.enc,List.map_cons,List.map_nil] at g1 e hK;(simp(disch:=first|decide|omega|(intros;exact Eq.trans rfl rfl)|simp only[puri]) only[a115_0,c,g1,e,hln,go_sem,seval,dis])
   exact hK _ _ hdM
 ·have e:l.take i=l:=List.take_of_length_le (by omega)
  rw[e] at hln hle ⊢;have ht:((woF l n).map Fil.enc).take (woF l n).length=(woF l n).map Fil.enc:=List.take_of_length_le (by omega)
  generalize (woF l n).map Fil.enc=Q at *;generalize (woF l n).length=q at *;(simp(disch:=first|decide|omega|(intros;exact Eq.trans rfl rfl)|simp only[puri]) only[a115_0,c,hln,ht,go_sem,seval,dis])
  rw[hZ];try simp[trim]
set_option maxRecDepth 8000 in
theorem with_spec (l:List Fil) (hl:l.length<=1000000) (hs:srt l) (f:Fil):call 71 [vl (l.map Fil.enc),.agg (f.enc.map .d)] []=some (vl ((wiF l f).map Fil.enc),[]):=by
 have q1:=without_spec l hl f.name;have hml:=woF_len l f.name;have hms:=woF_srt hs f.name;apply enterS s71 rfl;unfold wiF;generalize woF l f.name=m at *;have hpi:=pos_iff hms f.name;have hple:=pos_le m f.name;have hin:(insF m (posF m f.name) f).map Fil.enc=(m.map Fil.enc).take (posF m f.name)++[f.enc]++(m.map Fil.enc).drop (posF m f.name):=by
  rw[<- map_ins];simp
 rw[hin];generalize hpp:posF m f.name=pp at *;obtain⟨fn,fd,fs⟩:=f;simp only[Fil.enc,List.map_cons,List.map_nil] at *;(simp(disch:=first|decide|omega|(intros;exact Eq.trans rfl rfl)|simp only[puri]) only[a71,q1,go_sem,seval,dis])
 refine loop_boxM (m:=0) (σ:=Nat) (fun i=>pp-i) (fun i=>i<=pp) (fun i=>[vl (m.map Fil.enc),V.one (.p 0 0),vi i])
  (fun _=>[.cells [.d (.s fn),.d (.s fd),.d (.i .i64 fs)]]) (fun _=>(vl ((m.map Fil.enc).take pp++[[.s fn,.s fd,.i .i64 fs]]++(m.map Fil.enc).drop pp),[])) ?_ 0 (Nat.zero_le _) _ _ ?_
 rotate_left
 ·exact hdM
 intro i hi R hR;have hend:i=pp->∀ (b:Bool),True:=fun _ _=>trivial
 by_cases c:i<m.length
 ·have g1:(m.map Fil.enc)[i]?=some m[i].enc:=by simp[c]
  have hb:=hpi i c;by_cases c2:i<pp
  ·have e:Op.bytesLess m[i].name fn=true:=hb.2 c2;(simp(disch:=first|decide|omega|(intros;exact Eq.trans rfl rfl)|simp only[puri]) only[a71_0,c,g1,Fil.len,Fil.at0,e,go_sem,seval,dis])
   exact hR (i+1) (by omega) (by omega) _ _ hdM
  ·have e:Op.bytesLess m[i].name fn=false:=by
    cases h:Op.bytesLess m[i].name fn with
    | true=>exact absurd (hb.1 h) c2
    | false=>rfl
   have hip:i=pp:=by omega
   subst hip;have hb1:=bounds_hi (n:=m.length) (k:=i) (by omega)
   have hb2:=bounds_lo (n:=m.length) (k:=i) (by omega)
   have hok:okRows 3 (m.map Fil.enc)=true:=okRows_map Fil.len m;have hok1:okRows 3 ((m.map Fil.enc).take i)=true:=by rw[<- List.map_take];exact okRows_map Fil.len _
   have hok2:okRows 3 ((m.map Fil.enc).drop i)=true:=by rw[<- List.map_drop];exact okRows_map Fil.len _
   have htk:(m.map Fil.enc).take m.length=m.map Fil.enc:=List.take_of_length_le (by simp)
   have hmm:(m.map Fil.enc).length=m.length:=by simp
   generalize m.map Fil.enc=MQ at *;obtain⟨Q1,hQ1⟩:∃ Q1,MQ.take i=Q1:=⟨_,rfl⟩;obtain⟨Q2,hQ2⟩:∃ Q2,MQ.drop i=Q2:=⟨_,rfl⟩;have hq1:Q1.length<=1000000:=by rw[<- hQ1,List.length_take];omega
   have hq2:Q2.length<=1000000:=by rw[<- hQ2,List.length_drop];omega
   rw[hQ1] at hok1 ⊢;rw[hQ2] at hok2 ⊢;(simp(disch:=first|decide|omega|(intros;exact Eq.trans rfl rfl)|simp only[puri]) only[wkf,a71_0,c,g1,Fil.len,Fil.at0,e,hb1,hb2,hok,hok1,hok2,htk,hmm,hQ1,hQ2,go_sem,seval,dis,vdr,A.kind,A.xs,optX,A.isN])
   simp[trim,V.refs,L.refs,Box.refs];exact List.take_of_length_le (by simp;omega)
 ·have hip:i=pp:=by omega
  subst hip;have him:i=m.length:=by omega
  have hb1:=bounds_hi (n:=m.length) (k:=i) (by omega)
  have hb2:=bounds_lo (n:=m.length) (k:=i) (by omega)
  have hok:okRows 3 (m.map Fil.enc)=true:=okRows_map Fil.len m;have hok1:okRows 3 ((m.map Fil.enc).take i)=true:=by rw[<- List.map_take];exact okRows_map Fil.len _
  have hok2:okRows 3 ((m.map Fil.enc).drop i)=true:=by rw[<- List.map_drop];exact okRows_map Fil.len _
  have htk:(m.map Fil.enc).take m.length=m.map Fil.enc:=List.take_of_length_le (by simp)
  have hmm:(m.map Fil.enc).length=m.length:=by simp
  generalize m.map Fil.enc=MQ at *;obtain⟨Q1,hQ1⟩:∃ Q1,MQ.take i=Q1:=⟨_,rfl⟩;obtain⟨Q2,hQ2⟩:∃ Q2,MQ.drop i=Q2:=⟨_,rfl⟩;have hq1:Q1.length<=1000000:=by rw[<- hQ1,List.length_take];omega
  have hq2:Q2.length<=1000000:=by rw[<- hQ2,List.length_drop];omega
  rw[hQ1] at hok1 ⊢;rw[hQ2] at hok2 ⊢;(simp(disch:=first|decide|omega|(intros;exact Eq.trans rfl rfl)|simp only[puri]) only[wkf,a71_0,c,hb1,hb2,hok,hok1,hok2,htk,hmm,hQ1,hQ2,go_sem,seval,dis,vdr,A.kind,A.xs,optX,A.isN])
  simp[trim,V.refs,L.refs,Box.refs];exact List.take_of_length_le (by simp;omega)
end Go.Proofs.YtghfhomfppbooaaGreat
