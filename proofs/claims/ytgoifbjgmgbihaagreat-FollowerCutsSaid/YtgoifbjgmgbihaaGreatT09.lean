import Derived.Test.YtgoifbjgmgbihaaGreatT08
import Derived.Test.YtgoifbjgmgbihaaGreatT05
import Derived.Test.YtgoifbjgmgbihaaGreatT06
import Derived.Test.YtgoifbjgmgbihaaGreatT02
import Derived.Test.YtgoifbjgmgbihaaGreatVid
import Derived.Test.YtgoifbjgmgbihaaGreatT07
set_option linter.unusedSimpArgs false
set_option linter.unusedVariables false
set_option maxRecDepth 20000
set_option maxHeartbeats 16000000
namespace Go.Proofs.YtgoifbjgmgbihaaGreat
open Go.Vi
def eN (n:Int):List D:=[.i .i64 n]
theorem iy (most:Int) (l:List Int) (hl:l.length<=1000) (h:∀ x∈l,0<=x∧x<=most):call 59 [vi most,vl (l.map eN)] []=some (vb true,[]):=by
 apply ah Sv rfl;(simp(disch:=first|decide|omega|(intros;exact aj rfl rfl)|simp only[aa]) only[aF,PZ,zM,go_sem,seval,ak])
 refine aB (m:=0) (σ:=Nat) (fun i=>l.length-i) (fun i=>i<=l.length) (fun i=>[vi most,vl (l.map eN),vi l.length,vi i]) (fun _=>[]) (fun _=>(vb true,[])) ?_ 0 (zP _) _ _ cm
 intro i h1 R hR;by_cases c:i<l.length
 ·have hc:(i:Int)<(l.length:Int):=by omega
  have g1:(l.map eN)[i]?=some [.i .i64 l[i]]:=by rw[zG,zE c];rfl
  have hx:=h _ (zN c);have hK:=hR (i+1) (by omega) (by omega)
  clear hR;generalize l[i]=x at *;have x1:¬ x<0:=by omega
  have x2:¬ most<x:=by omega
  (simp(disch:=first|decide|omega|(intros;exact aj rfl rfl)|simp only[aa]) only[aF,E3,zT hc,g1,zF x1,zF x2,go_sem,seval,ak])
  exact hK _ _ cm
 ·have hc:¬ (i:Int)<(l.length:Int):=by omega
  (simp(disch:=first|decide|omega|(intros;exact aj rfl rfl)|simp only[aa]) only[aF,E3,PZ,zF hc,go_sem,seval,ak])
  try simp[trim]
theorem G3 (a:Int) (ha:0<=a∧a<=1099511627776) (l:List Rec) (hl:l.length<=64) (h:∀ i (hi:i<l.length),whyF l[i]=0∧l[i].at_=a+(i:Nat)) (ho:∀ r∈l,r.ok):call 60 [vl (l.map Rec.enc),vi a] []=some (vb true,[]):=by
 apply ah Sc rfl;(simp(disch:=first|decide|omega|(intros;exact aj rfl rfl)|simp only[aa]) only[aF,QO,zM,go_sem,seval,ak])
 refine aB (m:=0) (σ:=Nat) (fun i=>l.length-i) (fun i=>i<=l.length) (fun i=>[vl (l.map Rec.enc),vi a,vl (l.map Rec.enc),vi l.length,vi i]) (fun _=>[]) (fun _=>(vb true,[])) ?_ 0 (zP _) _ _ cm
 intro i h1 R hR;by_cases c:i<l.length
 ·have hc:(i:Int)<(l.length:Int):=by omega
  have g1:(l.map Rec.enc)[i]?=some l[i].enc:=by rw[zG,zE c];rfl
  obtain⟨hx,hy⟩:=h i c;have q:=sy l[i] (ho _ (zN c));rw[zT hx] at q;have hK:=hR (i+1) (by omega) (by omega)
  clear hR;generalize l[i]=r at *;obtain⟨ra,rb,rd⟩:=r;simp only[Rec.enc,List.map_cons,List.map_nil] at g1 q hy;subst hy;(simp(disch:=first|decide|omega|(intros;exact aj rfl rfl)|simp only[aa]) only[aF,Hb,zT hc,g1,q,Hr,IU,go_sem,seval,ak])
  exact hK _ _ cm
 ·have hc:¬ (i:Int)<(l.length:Int):=by omega
  have h64:((l.length:Nat):Int)<=64:=by omega
  (simp(disch:=first|decide|omega|(intros;exact aj rfl rfl)|simp only[aa]) only[aF,Hb,QO,zF hc,zT h64,zM,go_sem,seval,ak])
  try simp[trim]
def cB (a:Int) (l:List Rec):Mg:=⟨2,0,1,1,3,0,a,0,0,0,0,0,0,[],l⟩
def fP (a k sz su:Int) (da:Txt):Mg:=⟨3,0,1,1,3,0,a,0,0,0,k,sz,su,da,[]⟩
theorem wR (a:Int) (ha:0<=a∧a<=1099511627776) (l:List Rec) (hl:l.length<=64) (h:∀ i (hi:i<l.length),whyF l[i]=0∧l[i].at_=a+(i:Nat)) (ho:∀ r∈l,r.ok):call 36 [.agg (cB a l).l] []=some (vb true,[]):=by
 have q1:=iy 7 [0,1] (by decide) (by simp)
 have q2:=iy 1099511627776 [1,3,0,a,0,0] (by simp) (by simp;omega)
 have q3:=iy 65536 [0,0,0] (by simp) (by simp)
 have q4:=G3 a ha l hl h ho;simp only[eN,List.map_cons,List.map_nil] at q1 q2 q3;simp only[cB,Mg.l];apply ah Ry rfl;(simp(disch:=first|decide|omega|(intros;exact aj rfl rfl)|simp only[aa]) only[aF,Rg,List.replicate,List.set,q1,q2,q3,q4,go_sem,seval,ak])
 try simp[trim]
theorem xx (a:Int) (ha:0<=a∧a<=1099511627776) (k sz su:Int) (da:Txt) (hk:0<=k∧k<=sz) (hs:0<sz∧sz<=65536) (hd:da.length<=4096):call 36 [.agg (fP a k sz su da).l] []=some (vb true,[]):=by
 have q1:=iy 7 [0,1] (by decide) (by simp)
 have q2:=iy 1099511627776 [1,3,0,a,0,0] (by simp) (by simp;omega)
 have q3:=iy 65536 [0,k,sz] (by simp) (by simp;omega)
 simp only[eN,List.map_cons,List.map_nil] at q1 q2 q3;have h1:(0:Int)<sz:=hs.1;have h2:k<=sz:=hk.2;have h3:((da.length:Nat):Int)<=4096:=by omega
 simp only[fP,Mg.l,List.map_nil];apply ah Ry rfl;(simp(disch:=first|decide|omega|(intros;exact aj rfl rfl)|simp only[aa]) only[aF,Rg,List.replicate,List.set,q1,q2,q3,zT h1,zT h2,zT h3,go_sem,seval,ak])
 try simp[trim]
def LY (d:Txt):Ac:=⟨0,0,0,d⟩
def SJ:List Ac:=[LY [97,49],LY [97,50],LY [98,51],LY [99,52],LY [99],LY [100,53],LY [101]]
def exP:Sto:=(OO 30 SJ).1
def exT:Sto × Int:=cM exP 0 100
theorem AL (q:List Pr) (hs:fY q) (ho:okP q) (R:List Rec) (hR:R.length<=1000000) (hr:∀ r∈R,r.da.length<=64):call 21 [vl (q.map Pr.enc),vl (R.map Rec.enc)] []=some (vl ((cL q R).map Pr.enc),[]):=by
 apply ah Sy rfl;obtain⟨Z,hZ⟩:∃ Z:V,Z=vl ((cL q R).map Pr.enc):=⟨_,rfl⟩;rw[<- hZ];(simp(disch:=first|decide|omega|(intros;exact aj rfl rfl)|simp only[aa]) only[aF,Qj,go_sem,seval,ak])
 refine aB (m:=0) (σ:=Nat × List Pr) (fun t=>R.length-t.1) (fun t=>t.1<=R.length∧(fY t.2∧okP t.2)∧Z=vl ((cL t.2 (R.drop t.1)).map Pr.enc)) (fun t=>[vl (t.2.map Pr.enc),vl (R.map Rec.enc),vi t.1]) (fun _=>[])
  (fun _=>(Z,[])) ?_ (0,q) ⟨zP _,⟨hs,ho⟩,hZ⟩ _ _ cm
 rintro⟨i,w⟩ ⟨h1,h2,h3⟩ K hK;simp only at h1 h2 h3 ⊢;by_cases c:i<R.length
 ·have hc:(i:Int)<(R.length:Int):=by omega
  rw[zD c] at h3;have g1:(R.map Rec.enc)[i]?=some R[i].enc:=by rw[zG,zE c];rfl
  have hd:=hr _ (zN c);have hwl:=pS h2.1 h2.2;have g2:=step_ref w (by omega) R[i].da (by omega)
  have hK':=hK (i+1,cH w R[i].da) (by simp only[];omega) ⟨by simp only[];omega,⟨step_srt h2.1 _,step_ok h2.2 hd⟩,h3⟩
  generalize R[i]=r at *;generalize cH w r.da=w2 at *;obtain⟨ra,rt,rd⟩:=r;simp only[Rec.enc] at g1 g2;(simp(disch:=first|decide|omega|(intros;exact aj rfl rfl)|simp only[aa]) only[aF,FY,zT hc,g1,g2,go_sem,seval,ak])
  exact hK' _ _ cm
 ·have hc:¬ (i:Int)<(R.length:Int):=by omega
  rw[zC (by omega)] at h3
  rw[h3];(simp(disch:=first|decide|omega|(intros;exact aj rfl rfl)|simp only[aa]) only[aF,FY,Qj,zF hc,go_sem,seval,ak])
  try simp[trim,cL]
def zr (d:Txt):Rec:=⟨0,0,d⟩
def LM (kd a i n:Nat) (m:Mg):List L:=[zU (kd:Nat),zU (a:Nat),zU (i:Nat),zU (n:Nat),zI m.kd,zI m.fr,zI m.tt,zI m.ic,zI m.pe,zI m.sq,zI m.at_,zI m.wi,zI m.hi,zI m.wa,zI m.ix,zI m.sz,zW m.su,zS m.da,.d (.l (m.rs.map Rec.enc))]
def staA (all:List Rec) (k:Nat):List Pr:=cL [] (all.take k)
def dG (all:List Rec) (k:Nat):Txt:=aZ (staA all k)
def tJ (len lo n:Nat):Nat:=if lo+n<len then lo+n else len
def gC (all:List Rec) (kd a i n:Nat):Mg :=
 if kd % 6=0 then cB ((a % (all.length+1):Nat):Int) ((all.take (tJ all.length (a % (all.length+1)) (n % 6))).drop (a % (all.length+1))) else
  fP ((a % (all.length+1):Nat):Int) ((i % ((dG all (a % (all.length+1))).length+1):Nat):Int) ((dG all (a % (all.length+1))).length:Nat) (cw (dG all (a % (all.length+1))))
   (((dG all (a % (all.length+1))).take (tJ (dG all (a % (all.length+1))).length (i % ((dG all (a % (all.length+1))).length+1)) n)).drop (i % ((dG all (a % (all.length+1))).length+1)))
theorem BB:∀ l:List Pr,okP l->(l.flatMap gV).length<=74*l.length
 | [],_=>by simp
 | p::l,h=>by
  have h1:=BB l fun x hx=>h x (by simp[hx])
  have h2:=(h p (by simp)).2
  have h3:(aq p.val.length).length<=9:=du (n:=p.val.length) (by omega)
  rw[List.flatMap_cons,zA,List.length_cons];simp only[gV,List.length_cons,zA];omega
theorem ui {l:List Pr} (h:okP l) (hl:l.length<=256):(aZ l).length<=9+74*l.length:=by
 have h1:=BB l h;have h3:(aq l.length).length<=9:=du (n:=l.length) (by omega)
 unfold aZ;rw[zA];omega
theorem Kr (len lo n:Nat):(if((lo:Nat):Int)+((n:Nat):Int)<((len:Nat):Int) then((lo:Nat):Int)+((n:Nat):Int) else((len:Nat):Int))=((tJ len lo n:Nat):Int):=by
 unfold tJ;by_cases c:lo+n<len
 ·rw[if_pos c,if_pos (by omega)];omega
 ·rw[if_neg c,if_neg (by omega)]
theorem v1 (len lo n:Nat) (h:lo<=len):lo<=tJ len lo n∧tJ len lo n<=len:=by unfold tJ;split <;> omega
theorem ga (all:List Rec) (ho:∀ r∈all,r.da.length<=64) (hl:all.length<=1000) (kd a i n:Nat) (hk:kd<256) (ha:a<256) (hi:i<256) (hn:n<256) (m:Mg) :
  call 13 [vl (all.map Rec.enc),.agg (LM kd a i n m)] []=some (.agg (gC all kd a i n).l,[]):=by
 unfold gC LM;have hat:a % (all.length+1)<=all.length:=by have:=Nat.mod_lt a (show 0<all.length+1 by omega);omega
 have r1:((a:Nat):Int).tmod ((all.length:Nat)+1:Int)=((a % (all.length+1):Nat):Int):=by
  have:=f8 a (all.length+1) (by omega)
  rw[<- this];congr 1
 have r2:((kd:Nat):Int).tmod 6=((kd % 6:Nat):Int):=f8 kd 6 (by decide)
 have r3:((n:Nat):Int).tmod 6=((n % 6:Nat):Int):=f8 n 6 (by decide)
 have hn6:n % 6<6:=Nat.mod_lt _ (by decide)
 have hk6:kd % 6<6:=Nat.mod_lt _ (by decide)
 have z1:¬ ((all.length:Nat):Int)+1=0:=by omega
 generalize a % (all.length+1)=at0 at *;have hokr:aR 3 (all.map Rec.enc)=true:=aV Rec.len _;apply ah R4 rfl;by_cases c:kd % 6=0
 ·rw[if_pos c];have c':((kd % 6:Nat):Int)=0:=by omega
  obtain⟨j1,j2⟩:=v1 all.length at0 (n % 6) hat;have e1:=Kr all.length at0 (n % 6);have hd:List.drop at0 (List.take (tJ all.length at0 (n % 6)) (all.map Rec.enc))=((all.take (tJ all.length at0 (n % 6))).drop at0).map Rec.enc:=by rw[List.map_drop,List.map_take]
  generalize tJ all.length at0 (n % 6)=j at *;simp only[cB,Mg.l];rw[<- hd];(simp(disch:=first|decide|omega|(intros;exact aj rfl rfl)|simp only[aa]) only[aF,QX,r1,z1,r2,eq_true c',r3,e1,hokr,zM,go_sem,seval,ak])
  try simp[trim]
 ·rw[if_neg c];have c':¬ ((kd % 6:Nat):Int)=0:=by omega
  have hsrt:fY ([]:List Pr):=List.Pairwise.nil;have hokp:okP ([]:List Pr):=fun p hp=>by cases hp
  have ht:List.take at0 (all.map Rec.enc)=(all.take at0).map Rec.enc:=by rw[List.map_take]
  have q1:=AL [] hsrt hokp (all.take at0) (by simp;omega) (fun r hr=>ho r (zZ hr))
  have hf:=lQ (all.take at0) [] hsrt hokp (fun r hr=>ho r (zZ hr))
  have hsl:=pS hf.1 hf.2.1;have hst:cL [] (all.take at0)=staA all at0:=rfl;rw[hst] at q1 hf hsl;have hsb:(aZ (staA all at0)).length<=20000:=by have:=ui hf.2.1 hsl;omega
  have q2:=Cx (staA all at0) (by omega) (by omega) (fun p hp=>(hf.2.1 p hp).1)
  have hsn:aZ (staA all at0)=dG all at0:=rfl;rw[hsn] at q2 hsb;have q3:=rY (dG all at0) (by omega)
  have hsu:(((cA 0#32 (dG all at0)).toNat:Nat):Int)=cw (dG all at0):=rfl;rw[hsu] at q3;generalize dG all at0=s at *;generalize staA all at0=q at *;have hkk:i % (s.length+1)<=s.length:=by have:=Nat.mod_lt i (show 0<s.length+1 by omega);omega
  have r4:((i:Nat):Int).tmod ((s.length:Nat)+1:Int)=((i % (s.length+1):Nat):Int):=by
   have:=f8 i (s.length+1) (by omega)
   rw[<- this];congr 1
  have z2:¬ ((s.length:Nat):Int)+1=0:=by omega
  generalize i % (s.length+1)=k at *;obtain⟨j1,j2⟩:=v1 s.length k n hkk;have e1:=Kr s.length k n;generalize tJ s.length k n=j at *;simp only[fP,Mg.l,List.map_nil] at q1 ⊢;(simp(disch:=first|decide|omega|(intros;exact aj rfl rfl)|simp only[aa]) only[aF,QX,r1,z1,r2,eq_false c',hokr,ht,q1,q2,q3,r4,z2,e1,zM,go_sem,seval,ak])
  try simp[trim]
structure Ak where
 kd:Nat
 a:Nat
 i:Nat
 n:Nat
 m:Mg
def Ak.enc (x:Ak):List D:=[.i .u8 (x.kd:Nat),.i .u8 (x.a:Nat),.i .u8 (x.i:Nat),.i .u8 (x.n:Nat),.i .i64 x.m.kd,.i .i64 x.m.fr,.i .i64 x.m.tt,.i .i64 x.m.ic,.i .i64 x.m.pe,.i .i64 x.m.sq,.i .i64 x.m.at_,.i .i64 x.m.wi,.i .i64 x.m.hi,.i .i64 x.m.wa,.i .i64 x.m.ix,.i .i64 x.m.sz,.i .u32 x.m.su,.s x.m.da,.l (x.m.rs.map Rec.enc)]
structure Ak.ok (x:Ak):Prop where
 kd:x.kd<256
 a:x.a<256
 i:x.i<256
 n:x.n<256
 rl:x.m.rs.length<=9223372036854775807
 rs:∀ r∈x.m.rs,r.ok
def Eo (data:List Txt) (l:List Ak) (b:Bool):Prop:=b=true->data.length<=30∧l.length<=60∧∀ d∈data,d.length<=64
theorem AB (data:List Txt) (hd:data.length<=9223372036854775807) (hds:∀ d∈data,d.length<=9223372036854775807) (l:List Ak) (hl:l.length<=9223372036854775807) (ho:∀ x∈l,x.ok) :
  ∃ b,call 6 [vl (data.map eX),vl (l.map Ak.enc)] []=some (vb b,[])∧Eo data l b:=by
 suffices h:∃ z:V × Hp,call 6 [vl (data.map eX),vl (l.map Ak.enc)] []=some z∧∃ b,z=(vb b,[])∧Eo data l b by
  obtain⟨z,h1,b,rfl,h2⟩:=h;exact⟨b,h1,h2⟩
 have no:Eo data l false:=fun h=>by cases h
 apply z6 s6 rfl;by_cases c1:30<data.length
 ·have c1':(30:Int)<(data.length:Int):=by omega
  (simp(disch:=first|decide|omega|(intros;exact aj rfl rfl)|simp only[aa]) only[aF,a6,zT c1',zM,go_sem,seval,ak])
  exact⟨_,rfl,false,by simp[trim],no⟩
 ·have c1':¬ (30:Int)<(data.length:Int):=by omega
  by_cases c2:60<l.length
  ·have c2':(60:Int)<(l.length:Int):=by omega
   (simp(disch:=first|decide|omega|(intros;exact aj rfl rfl)|simp only[aa]) only[aF,a6,zF c1',zT c2',zM,go_sem,seval,ak])
   exact⟨_,rfl,false,by simp[trim],no⟩
  ·have c2':¬ (60:Int)<(l.length:Int):=by omega
   have q1:=nE data (by omega)
   have q2:=yl (bw data) 30 (by rw[iA];omega) (fun r hr=>by
    unfold bw at hr;rw[List.mem_mapIdx] at hr;obtain⟨i,hi,rfl⟩:=hr;refine⟨⟨?_,?_⟩,⟨?_,?_⟩,hds _ (zN hi)⟩ <;> simp only[] <;> omega)
   generalize Ct (bw data) 30=b0 at *;cases b0 with
   | false =>
    (simp(disch:=first|decide|omega|(intros;exact aj rfl rfl)|simp only[aa]) only[aF,a6,zF c1',zF c2',q1,q2,zM,go_sem,seval,ak])
    exact⟨_,rfl,false,by simp[trim],no⟩
   | true =>
    (simp(disch:=first|decide|omega|(intros;exact aj rfl rfl)|simp only[aa]) only[aF,a6,zF c1',zF c2',q1,q2,zM,go_sem,seval,ak])
    refine BN (m:=0) (σ:=Nat) (fun i=>data.length-i) (fun i=>i<=data.length∧∀ d∈data.take i,d.length<=64) (fun i=>[vl (data.map eX),vl (l.map Ak.enc),vi i]) (fun _=>[]) (fun z=>∃ b,z=(vb b,[])∧Eo data l b) ?_ 0 ⟨zP _,by simp⟩ _ _ ?_
    rotate_left
    ·exact cm
    rintro i ⟨h1,h2⟩ R hR;by_cases c:i<data.length
    ·have hc:(i:Int)<(data.length:Int):=by omega
     have g1:(data.map eX)[i]?=some [.s data[i]]:=by rw[zG,zE c];rfl
     by_cases c3:64<data[i].length
     ·have c3':(64:Int)<(data[i].length:Int):=by omega
      (simp(disch:=first|decide|omega|(intros;exact aj rfl rfl)|simp only[aa]) only[aF,JB,zT hc,g1,zT c3',zM,go_sem,seval,ak])
      exact⟨_,rfl,false,by simp[trim],no⟩
     ·have c3':¬ (64:Int)<(data[i].length:Int):=by omega
      have hK:=hR (i+1) (by omega) ⟨by omega,fun d hd=>by
       rw[zO c] at hd;rcases zX.1 hd with hd|hd
       ·exact h2 d hd
       ·rw[zV.1 hd];omega⟩
      clear hR;(simp(disch:=first|decide|omega|(intros;exact aj rfl rfl)|simp only[aa]) only[aF,JB,zT hc,g1,zF c3',zM,go_sem,seval,ak])
      exact hK _ _ cm
    ·have hc:¬ (i:Int)<(data.length:Int):=by omega
     rw[zL (by omega)] at h2
     clear hR;(simp(disch:=first|decide|omega|(intros;exact aj rfl rfl)|simp only[aa]) only[aF,JB,a6,zF hc,zM,go_sem,seval,ak])
     refine BN (m:=0) (σ:=Nat) (fun i=>l.length-i) (fun i=>i<=l.length) (fun i=>[vl (l.map Ak.enc),vi i]) (fun _=>[]) (fun z=>∃ b,z=(vb b,[])∧Eo data l b) ?_ 0 (zP _) _ _ ?_
     rotate_left
     ·exact cm
     intro j h3 R hR;by_cases c4:j<l.length
     ·have hc4:(j:Int)<(l.length:Int):=by omega
      have g1:(l.map Ak.enc)[j]?=some l[j].enc:=by rw[zG,zE c4];rfl
      have hx:=ho _ (zN c4);have q3:=yl l[j].m.rs 70 hx.rl hx.rs;have hK:=hR (j+1) (by omega) (by omega)
      clear hR;generalize l[j]=x at *;generalize Ct x.m.rs 70=b1 at *;simp only[Ak.enc] at g1;cases b1 with
      | false =>
       (simp(disch:=first|decide|omega|(intros;exact aj rfl rfl)|simp only[aa]) only[aF,Da,zT hc4,g1,q3,zM,go_sem,seval,ak])
       exact⟨_,rfl,false,by simp[trim],no⟩
      | true =>
       by_cases c5:(5000:Int)<(x.m.da.length:Int)
       ·(simp(disch:=first|decide|omega|(intros;exact aj rfl rfl)|simp only[aa]) only[aF,Da,zT hc4,g1,q3,zT c5,zM,go_sem,seval,ak])
        exact⟨_,rfl,false,by simp[trim],no⟩
       ·(simp(disch:=first|decide|omega|(intros;exact aj rfl rfl)|simp only[aa]) only[aF,Da,zT hc4,g1,q3,zF c5,zM,go_sem,seval,ak])
        exact hK _ _ cm
     ·have hc4:¬ (j:Int)<(l.length:Int):=by omega
      (simp(disch:=first|decide|omega|(intros;exact aj rfl rfl)|simp only[aa]) only[aF,Da,a6,zF hc4,zM,go_sem,seval,ak])
      exact⟨_,rfl,true,by simp[trim],fun _=>⟨by omega,by omega,h2⟩⟩
structure Lg (all:List Rec):Prop where
 len:all.length<=30
 why:∀ r∈all,whyF r=0
 num:numB 0 all
structure Sg (p:Bool) (k u:Nat) (all:List Rec) (lo n:Nat) (s:Sto):Prop where
 ok:okS k u s
 idl:idl p s.disk
 wr:∃ (f:Nat) (S:Txt),f<=n∧WR (f:Int) S (staA all f) s ((all.take n).drop f)
 le:n<=all.length
 sure:(lo:Int)<=s.sure
variable {p:Bool} {k u lo n:Nat} {all:List Rec} {s:Sto}
theorem Sg.next (h:Sg p k u all lo n s):s.next=n:=by
 obtain⟨f,S,hf,hw⟩:=h.wr;have:=hw.next;have:=h.le;rw[zH,zQ] at *;omega
theorem Sg.len (h:Sg p k u all lo n s) (ha:Lg all):1<=s.segs.length∧s.segs.length<=31:=by
 obtain⟨f,S,hf,hw⟩:=h.wr;have h1:=hw.segs_le;have:=ha.len;rw[zH,zQ] at h1;omega
theorem Sg.up {k' u':Nat} (h:Sg p k u all lo n s) (hk:k<=k') (hu:u<=u'):Sg p k' u' all lo n s:=⟨h.ok.up hk hu,h.idl,h.wr,h.le,h.sure⟩
theorem Sg.few (h:Sg true k u all lo n s) (ha:Lg all) (hv:s.ver<=300000):Sg true 70 300000 all lo n s:=by
 obtain⟨f,S,hf,hw⟩:=h.wr;have:=ha.len;exact⟨hw.few h.ok (h.idl.2 rfl).2 (by rw[zH,zQ];omega) hv,h.idl,h.wr,h.le,h.sure⟩
theorem Sg.go (h:Sg p k u all lo n s) (ha:Lg all):Go1 k u 30 s:=by
 obtain⟨f,S,hf,hw⟩:=h.wr;have:=ha.len;exact⟨h.ok,f,S,_,_,hw,by rw[zH,zQ];omega⟩
theorem Sg.app (h:Sg p k u all lo n s) (ha:Lg all) (hu:u<1000000000000) {seg:Int} (hseg:1<=seg) (hn:n<all.length) :
  (eg s seg all[n]).1.ver<=s.ver+1∧(((eg s seg all[n]).2=0∧Sg p (k+2) (u+1000) all lo (n+1) (eg s seg all[n]).1)∨((eg s seg all[n]).2=10∧p=false∧Sg p (k+2) (u+1000) all lo n (eg s seg all[n]).1)):=by
 have hi:=Nf h.idl (by have:=h.len ha;omega) seg all[n]
 have hok:=Ck h.ok seg all[n];have hnx:=h.next;obtain⟨f,S,hf,hw⟩:=h.wr;have hlo:=h.sure;have hw2:=hw.app h.ok hseg hu all[n];have hat:=ha.num n hn;have hwy:=ha.why _ (zN hn);have hl:=ha.len;refine⟨hi.2,?_⟩;rcases hw2.2.2 with⟨e,_,_,_,_,h1⟩|⟨h1,⟨_,_,e⟩|⟨_,_,e⟩|e|⟨e,_⟩⟩
 ·refine .inl ⟨e,hok,hi.1.1,⟨f,S,by omega,?_⟩,hn,by have:=hw2.1;omega⟩
  have e2:(all.take (n+1)).drop f=(all.take n).drop f++[all[n]]:=by
   rw[zO hn,List.drop_append_of_le_length (by rw[zQ];omega)]
  rw[e2];exact h1
 ·exfalso;rcases e with e|e
  ·exact e hwy
  ·exact e (by rw[hat,hnx];omega)
 ·exfalso;omega
 ·exact absurd e hi.1.2.1
 ·refine .inr ⟨e,?_,hok,hi.1.1,⟨f,S,hf,h1⟩,h.le,by have:=hw2.1;omega⟩
  cases p with
  | false=>rfl
  | true=>exact absurd e (hi.1.2.2 rfl)
theorem Sg.apps (ha:Lg all) {seg:Int} (hseg:1<=seg):∀ (j:Nat) {k u n:Nat} {s:Sto},Sg p k u all lo n s->n+j<=all.length->u+1000*j<1000000000000 ->
  ∃ n',n<=n'∧n'<=n+j∧(jS seg ((all.drop n).take j) s).1.ver<=s.ver+j∧Sg p (k+2*j) (u+1000*j) all lo n' (jS seg ((all.drop n).take j) s).1∧(((jS seg ((all.drop n).take j) s).2=0∧n'=n+j)∨((jS seg ((all.drop n).take j) s).2=10∧p=false))
 | 0,k,u,n,s,h,_,_=>⟨n,Nat.le_refl _,by omega,by rw[List.take_zero];show s.ver<=_;omega,by rw[List.take_zero];exact h,by rw[List.take_zero];exact .inl ⟨rfl,rfl⟩⟩
 | j+1,k,u,n,s,h,hn,hu=>by
  have hn2:n<all.length:=by omega
  have e:(all.drop n).take (j+1)=all[n]::(all.drop (n+1)).take j:=by rw[zD hn2,List.take_succ_cons]
  rw[e];have h1:=h.app ha (by omega) hseg hn2
  unfold jS;rcases h1.2 with⟨e1,h2⟩|⟨e1,hp,h2⟩
  ·rw[if_neg (by simp[e1])]
   obtain⟨n',a1,a2,a3,a4,a5⟩:=Sg.apps ha hseg j h2 (by omega) (by omega)
   refine⟨n',by omega,by omega,by omega,a4.up (by omega) (by omega),?_⟩
   rcases a5 with⟨a5,a6⟩|a5
   ·exact .inl ⟨a5,by omega⟩
   ·exact .inr a5
  ·rw[if_pos (by rw[e1];decide)]
   exact⟨n,by omega,by omega,by omega,h2.up (by omega) (by omega),.inr ⟨e1,hp⟩⟩
theorem Ic (all:List Rec) (f n:Nat) (f':Int) (h1:(f:Int)<=f') (h2:f'<=n):Em (staA all f) f ((all.take n).drop f) f'=staA all f'.toNat:=by
 unfold Em staA cL;rw[<- List.foldl_append];congr 1
 have e:all.take f'.toNat=all.take f++((all.take f'.toNat).drop f):=by
  have:=zY f (all.take f'.toNat);rw[List.take_take] at this;have e3:min f f'.toNat=f:=by omega
  rw[e3] at this;exact this.symm
 rw[e];congr 1
 have e4:f'.toNat=f+(f'-f).toNat:=by omega
 have e5:all.take f'.toNat=(all.take n).take f'.toNat:=by
  rw[List.take_take];congr 1;omega
 rw[e5];conv=>rhs;rw[List.drop_take]
 congr 1;omega
theorem Sg.sync (h:Sg p k u all lo n s):(aT s).1.ver=s.ver∧Sg p k u all lo n (aT s).1∧(((aT s).2=0∧(aT s).1.sure=n)∨((aT s).2=10∧p=false)):=by
 have hi:=Kt (p:=p) h.idl;have hnx:=h.next;have hlo:=h.sure;have hok:=j5 h.ok;obtain⟨f,S,hf,hw⟩:=h.wr;have hsn:=hw.sure;have hs:=hw.sync h.ok;have hsu:(lo:Int)<=(aT s).1.sure:=by
  have e:(aT s).1.sure=if(am s.disk (cq s.disk.files (fileN s.last.base))).2=0 then s.next else s.sure:=rfl
  rw[e];split <;> omega
 refine⟨hi.2,⟨hok,hi.1.1,⟨f,S,hf,hs.1⟩,h.le,hsu⟩,?_⟩;rcases hs.2 with h1|h1
 ·exact .inl ⟨h1.1,by rw[h1.2.1];exact hnx⟩
 ·refine .inr ⟨h1.1,?_⟩;cases p with
  | false=>rfl
  | true=>exact absurd h1.1 (hi.1.2.2 rfl)
theorem Sg.trim (h:Sg p k u all lo n s) (ha:Lg all) (hu:u<1000000000000) (keep count:Int):(cM s keep count).1.ver<=s.ver+1∧(cM s keep count).1.sure=s.sure∧Sg p (k+2) (u+23000) all lo n (cM s keep count).1∧((cM s keep count).2=0∨((cM s keep count).2=10∧p=false)):=by
 have hi:=MY (p:=p) h.idl keep count;have hok:=Ew h.ok (fun g hg=>by have:=(h.go ha).base g hg;omega) keep count
 have hnx:=h.next;have hlo:=h.sure;obtain⟨f,S,hf,hw⟩:=h.wr;obtain⟨f',S',l0',h1,h2,h3,h4,_,h6,_,h8,_⟩:=hw.trim h.ok hu keep count;refine⟨hi.2,h6,⟨hok,hi.1.1,⟨f'.toNat,S',by omega,?_⟩,h.le,by omega⟩,?_⟩
 ·have e1:((f'.toNat:Nat):Int)=f':=by omega
  rw[e1,<- Ic all f n f' h1 (by omega),<- h3]
  have e2:(all.take n).drop f'.toNat=((all.take n).drop f).drop (f'-f).toNat:=by
   rw[List.drop_drop];congr 1;omega
  rw[e2];exact h4
 ·rcases h8 with h8|h8|h8
  ·exact .inl h8
  ·exact absurd h8 hi.1.2.1
  ·refine .inr ⟨h8.1,?_⟩;cases p with
   | false=>rfl
   | true=>exact absurd h8.1 (hi.1.2.2 rfl)
theorem Sg.follow (h:Sg p k u all lo n s) (ha:Lg all) (hs:s.sure=n) (c:Cnf) (hseg:1<=c.seg) (j:Nat) (hj:n+j<=all.length) (hu:u<900000000000) :
  ∃ n',n<=n'∧n'<=n+j∧(dQ s c ((all.drop n).take j)).1.ver<=s.ver+j+1∧Sg p (k+2*j+2) (u+1000*j+23000) all lo n' (dQ s c ((all.drop n).take j)).1 ∧
   (((dQ s c ((all.drop n).take j)).2=0∧n'=n+j∧(dQ s c ((all.drop n).take j)).1.sure=n')∨((dQ s c ((all.drop n).take j)).2=10∧p=false)):=by
 have hal:=ha.len;have hnx:=h.next;obtain⟨n',a1,a2,a3,a4,a5⟩:=Sg.apps ha hseg j h hj (by omega)
 have hlo:=a4.next;unfold dQ wU;have hsu:∀ l s,s.sure=(n:Int)->(jS c.seg l s).1.next=n->True:=fun _ _ _ _=>trivial
 generalize hq:jS c.seg ((all.drop n).take j) s=q at *;obtain⟨t,e⟩:=q;simp only at *;rcases a5 with⟨e1,e2⟩|⟨e1,hp⟩
 ·subst e1;rw[if_neg (by decide),hnx,hlo]
  by_cases c1:(n:Int)<n'
  ·rw[if_pos c1];obtain⟨b1,b2,b3⟩:=a4.sync;rcases b3 with⟨b3,b4⟩|⟨b3,b4⟩
   ·rw[if_neg (by simp[b3])]
    obtain⟨d1,d2,d3,d4⟩:=b2.trim ha (by omega) c.keep c.count
    unfold qj;rcases d4 with d4|⟨d4,d5⟩
    ·rw[if_neg (by rw[d4];decide)]
     exact⟨n',a1,a2,by simp only[];omega,d3.up (by omega) (by omega),.inl ⟨rfl,e2,d2.trans b4⟩⟩
    ·rw[if_pos d4];exact⟨n',a1,a2,by simp only[];omega,d3.up (by omega) (by omega),.inr ⟨rfl,d5⟩⟩
   ·rw[if_pos (by rw[b3];decide)]
    exact⟨n',a1,a2,by omega,b2.up (by omega) (by omega),.inr ⟨b3,b4⟩⟩
  ·rw[if_neg c1];have hj0:j=0:=by omega
   subst hj0;rw[List.take_zero] at hq;have ht:t=s:=(congrArg Prod.fst hq).symm;subst ht;obtain⟨d1,d2,d3,d4⟩:=a4.trim ha (by omega) c.keep c.count
   unfold qj;rcases d4 with d4|⟨d4,d5⟩
   ·rw[if_neg (by rw[d4];decide)]
    exact⟨n',a1,a2,by simp only[];omega,d3.up (by omega) (by omega),.inl ⟨rfl,e2,d2.trans (by rw[hs];omega)⟩⟩
   ·rw[if_pos d4];exact⟨n',a1,a2,by simp only[];omega,d3.up (by omega) (by omega),.inr ⟨rfl,d5⟩⟩
 ·subst e1;rw[if_pos rfl];exact⟨n',a1,a2,by simp only[];omega,a4.up (by omega) (by omega),.inr ⟨rfl,hp⟩⟩
variable {all:List Rec}
def pieceL (all l:List Rec):Prop:=∃ a k:Nat,1<=k∧a+k<=all.length∧l=(all.drop a).take k
theorem Dr {a:Nat} (h:a<all.length) (k:Nat):(all.drop a).take (k+1)=all[a]::(all.drop (a+1)).take k:=by
 rw[zD h,List.take_succ_cons]
theorem ne (ha:Lg all) {a k:Nat} (h1:1<=k) (h2:a+k<=all.length):frst ((all.drop a).take k)=a:=by
 obtain⟨j,rfl⟩:∃ j,k=j+1:=⟨k-1,by omega⟩
 rw[Dr (by omega)]
 have:=ha.num a (by omega)
 show all[a].at_=_;omega
theorem pI {a k:Nat} (h2:a+k<=all.length):((all.drop a).take k).length=k:=by
 rw[zQ,zH];omega
theorem Lg.rok (ha:Lg all) (ht:∀ r∈all,r.ok):∀ l,pieceL all l->okB l:=by
 rintro l ⟨a,k,h1,h2,rfl⟩;have:=ha.len;refine⟨by rw[pI h2];omega,by rw[ne ha h1 h2];omega,fun r hr=>ht r (List.mem_of_mem_drop (zZ hr))⟩
structure HD (all:List Rec) (most bytes:Int) (h:List (List Rec)):Prop where
 pc:∀ l∈h,pieceL all l
 srt:h.Pairwise fun a b=>frst a<frst b
 cnt:(h.length:Int)<=most
 byt:(bytH h:Int)<=bytes
variable {most bytes:Int} {h:List (List Rec)}
theorem HD.ok (hi:HD all most bytes h) (ha:Lg all) (ht:∀ r∈all,r.ok) (hm:most<=1000):okH h :=
 ⟨by have:=hi.cnt;omega,fun l hl=>ha.rok ht l (hi.pc l hl),hi.srt⟩
theorem rT:∀ {a b:List (List Rec)},a.Sublist b->bytH a<=bytH b
 | _,_,.slnil=>Nat.le_refl _
 | _,_,.cons x h=>by have:=rT h;simp only[bytH];omega
 | _,_,.cons_cons x h=>by have:=rT h;simp only[bytH];omega
theorem HD.sub (hi:HD all most bytes h) {h':List (List Rec)} (hs:h'.Sublist h):HD all most bytes h' :=
 ⟨fun l hl=>hi.pc l (hs.subset hl),hi.srt.sublist hs,by have:=hs.length_le;have:=hi.cnt;omega,by have:=rT hs;have:=hi.byt;omega⟩
theorem HD.rest (hi:HD all most bytes h) (a:Int):HD all most bytes (dM h a):=hi.sub List.filter_sublist
theorem rU:∀ a b:List (List Rec),bytH (a++b)=bytH a+bytH b
 | [],b=>by simp[bytH]
 | x::a,b=>by simp only[List.cons_append,bytH,rU a b];omega
theorem HD.put (hi:HD all most bytes h) {l:List Rec} (hl:l.length=0∨pieceL all l) (next:Int):HD all most bytes (Cw h l next most bytes):=by
 unfold Cw;split
 ·exact hi
 ·rename_i c;simp only[not_or] at c;obtain⟨c1,c2,c3,c4,c5⟩:=c;have hp:=hl.resolve_left c1;have hlt:=wW hi.srt (frst l);have hle:=vo h (frst l);have hcat:h.take (dj h (frst l))++h.drop (dj h (frst l))=h:=zY _ _;refine⟨fun x hx=>?_,?_,?_,?_⟩
  ·rcases zX.1 hx with hx|hx
   ·exact hi.pc x (zZ hx)
   ·rcases List.mem_cons.1 hx with rfl|hx
    ·exact hp
    ·exact hi.pc x (List.mem_of_mem_drop hx)
  ·have hs:=hi.srt;rw[<- hcat] at hs;have hs2:=List.pairwise_append.1 hs;have hA:∀ x∈h.take (dj h (frst l)),frst x<frst l:=fun x hx=>by
    obtain⟨i,hii,rfl⟩:=zJ hx;rw[zQ] at hii;rw[List.getElem_take];exact(hlt i (by omega)).2 (by omega)
   have hB:∀ x∈h.drop (dj h (frst l)),frst l<frst x:=fun x hx=>by
    obtain⟨i,hii,rfl⟩:=zJ hx;rw[zH] at hii;rw[List.getElem_drop];have h1:=(hlt (dj h (frst l)) (by omega)).1
    have h2:frst h[dj h (frst l)]≠frst l:=fun e=>c4 (by
     unfold u9;rw[zE (by omega)]
     simp[e])
    have h0:¬ frst h[dj h (frst l)]<frst l:=fun e=>Nat.lt_irrefl _ (h1 e)
    by_cases ci:i=0
    ·subst ci;simp only[Nat.add_zero];omega
    ·have h3:frst h[dj h (frst l)]<frst h[dj h (frst l)+i]:=List.pairwise_iff_getElem.1 hi.srt _ _ _ _ (by omega)
     omega
   exact List.pairwise_append.2 ⟨hs2.1,List.pairwise_cons.2 ⟨hB,hs2.2.1⟩,fun a hA' b hb=>by
    rcases List.mem_cons.1 hb with rfl|hb
    ·exact hA a hA'
    ·exact hs2.2.2 a hA' b hb⟩
  ·have:(h.take (dj h (frst l))++l::h.drop (dj h (frst l))).length=h.length+1:=by
    rw[zA,List.length_cons,zQ,zH];omega
   rw[this];omega
  ·have:bytH (h.take (dj h (frst l))++l::h.drop (dj h (frst l)))=bytH h+f7 l:=by
    have e:bytH h=bytH (h.take (dj h (frst l)))+bytH (h.drop (dj h (frst l))):=by rw[<- rU,hcat]
    rw[rU,e];show _+(f7 l+_)=_;omega
   rw[this];omega
theorem takeH_law (ha:Lg all):∀ (h:List (List Rec)) (n:Nat) (out:List Rec),(∀ l∈h,pieceL all l)->n<=all.length ->
  ∃ j,n+j<=all.length∧(fZ h n out).1=out++(all.drop n).take j∧(fZ h n out).2.Sublist h∧(all.length<=n+j->(fZ h n out).2=[])
 | [],n,out,_,hn=>⟨0,hn,by simp[fZ],List.Sublist.slnil,fun _=>rfl⟩
 | l::h,n,out,hp,hn=>by
  have hp':∀ x∈h,pieceL all x:=fun x hx=>hp x (List.mem_cons_of_mem _ hx)
  obtain⟨a,k,h1,h2,rfl⟩:=hp l (List.mem_cons_self ..);unfold fZ;rw[ne ha h1 h2,pI h2];by_cases c1:(n:Int)<a
  ·rw[if_pos c1];exact⟨0,hn,by simp,List.Sublist.refl _,fun h=>by omega⟩
  ·rw[if_neg c1];by_cases c2:(n:Int)<(a:Int)+(k:Nat)
   ·rw[if_pos c2];have e:(a:Int)+(k:Nat)=((a+k:Nat):Int):=by omega
    rw[e];obtain⟨j,b1,b2,b3,b4⟩:=takeH_law ha h (a+k) (out++((all.drop a).take k).drop ((n:Int)-a).toNat) hp' h2;refine⟨a+k-n+j,by omega,?_,b3.cons _,fun h=>b4 (by omega)⟩
    rw[b2,List.append_assoc];congr 1
    have e1:((n:Int)-a).toNat=n-a:=by omega
    have e2:((all.drop a).take k).drop (n-a)=(all.drop n).take (a+k-n):=by
     rw[List.drop_take,List.drop_drop];have z1:a+(n-a)=n:=by omega
     have z2:k-(n-a)=a+k-n:=by omega
     rw[z1,z2]
    rw[e1,e2,List.take_add,List.drop_drop];have z3:n+(a+k-n)=a+k:=by omega
    rw[z3]
   ·rw[if_neg c2];obtain⟨j,b1,b2,b3,b4⟩:=takeH_law ha h n out hp' hn;exact⟨j,b1,b2,b3.cons _,b4⟩
variable {p:Bool} {k u lo n:Nat} {all:List Rec} {s:Sto}
theorem Lg.sta (ha:Lg all) (a:Nat):fY (staA all a)∧okV (staA all a)∧(staA all a).length<=30:=by
 have hd:∀ r∈all.take a,r.da.length<=64:=fun r hr=>by
  have hw:=ha.why r (zZ hr);unfold whyF at hw;split at hw
  ·split at hw
   ·assumption
   ·exact absurd hw (by decide)
  ·exact absurd hw (by decide)
 have h1:=lQ (all.take a) [] List.Pairwise.nil (fun p hp=>by cases hp) hd
 have h2:=pt (all.take a) [] (fun p hp=>by cases hp) hd
 refine⟨h1.1,h2,?_⟩;have h3:=h1.2.2;have:=ha.len;rw[zQ] at h3;have e:(staA all a).length=(cL [] (all.take a)).length:=rfl;rw[e];simp only[List.length_nil] at h3;omega
theorem Lg.sn (ha:Lg all) (a:Nat):1<=(dG all a).length∧(dG all a).length<=2300∧bA (dG all a)=some (staA all a):=by
 obtain⟨h1,h2,h3⟩:=ha.sta a;have h4:=ui h2.okP (by omega)
 have h5:=qd h1 h2;exact⟨h5.1,by unfold dG;omega,p9 h1 h2⟩
theorem Sg.inst (h:Sg p k u all lo n s) (ha:Lg all) (hu:u<1000000000000) {a:Nat} (hna:n<a) (hal:a<=all.length) (hk:okS (k+3) (u+30000) (bf s a (dG all a)).1) :
  (bf s a (dG all a)).1.ver<=s.ver+1∧(((bf s a (dG all a)).2=0∧Sg p (k+3) (u+30000) all lo a (bf s a (dG all a)).1∧(bf s a (dG all a)).1.sure=a) ∨
   ((bf s a (dG all a)).2=10∧p=false∧∃ n',(n'=n∨n'=a)∧Sg p (k+3) (u+30000) all lo n' (bf s a (dG all a)).1)):=by
 have hi:=N8 (p:=p) h.idl a (dG all a);have hnx:=h.next;have hlo:=h.sure;obtain⟨h1,h2,h3⟩:=ha.sn a;obtain⟨f,S,hf,hw⟩:=h.wr;have hws:=hw.sure;have hlen:=ha.len;have h5:=hw.inst h.ok hu a (x:=dG all a) (by omega)
 have hp10:(bf s a (dG all a)).2=10->p=false:=fun e=>by
  cases p with
  | false=>rfl
  | true=>exact absurd e (hi.1.2.2 rfl)
 refine⟨hi.2,?_⟩;rcases h5 with⟨_,_,e|e|e⟩|⟨q,hq,_,_,⟨e1,e2,e3,e4,e5⟩|⟨e1,e2,e3,e4,e5⟩⟩
 ·rw[h3] at e;cases e
 ·omega
 ·omega
 ·rcases e1 with⟨e1,_⟩|⟨e1,_⟩
  ·exact absurd e1 hi.1.2.1
  ·refine .inr ⟨e1,hp10 e1,n,.inl rfl,hk,hi.1.1,⟨f,S,hf,e5⟩,h.le,?_⟩;rw[e2];exact hlo
 ·rw[h3] at hq;cases hq;have hsg:Sg p (k+3) (u+30000) all lo a (bf s a (dG all a)).1:=by
   refine⟨hk,hi.1.1,⟨a,dG all a,Nat.le_refl _,?_⟩,hal,by omega⟩
   rw[zC (by rw[zQ];omega)]
   exact e2
  rcases e1 with⟨e1,_⟩|⟨e1,_⟩
  ·exact .inl ⟨e1,hsg,e4⟩
  ·exact .inr ⟨e1,hp10 e1,a,.inr rfl,hsg⟩
def BI (all:List Rec) (b:Boo):Prop:=0<=b.at_∧b.at_<=all.length∧∃ j,b.got=(dG all b.at_.toNat).take j
theorem BI.zero:BI all bv:=⟨Int.le_refl _,by show(0:Int)<=_;omega,0,by simp[bv]⟩
theorem BI.len (ha:Lg all) {b:Boo} (h:BI all b):b.got.length<=2300:=by
 obtain⟨h1,h2,j,h3⟩:=h;have:=(ha.sn b.at_.toNat).2.1;rw[h3,zQ];omega
theorem Iy (S:Txt) (j i to_:Nat) (hi:i<=S.length) (ht:i<=to_) (x:Int) (hx:x=(i:Nat)):∃ j',(if x=((S.take j).length:Nat) then S.take j++(S.take to_).drop i else S.take j)=S.take j':=by
 split
 ·rename_i c;refine⟨to_,?_⟩;have e:S.take j=S.take i:=by
   rw[zQ] at c;by_cases c2:j<=S.length
   ·have:j=i:=by omega
    rw[this]
   ·have:i=S.length:=by omega
    rw[zL (by omega),this,List.take_length]
  rw[e];have:=zY i (S.take to_);rw[List.take_take,Nat.min_eq_left ht] at this;exact this
 ·exact⟨j,rfl⟩
theorem BI.chunk {f:Fw} (h:BI all f.bo) {a:Nat} (hal:a<=all.length) (i to_:Nat) (hi:i<=(dG all a).length) (ht:i<=to_) :
  BI all (ef f (fP (a:Int) (i:Nat) ((dG all a).length:Nat) (cw (dG all a)) (((dG all a).take to_).drop i))):=by
 have hg:∃ j,sV f (fP (a:Int) (i:Nat) ((dG all a).length:Nat) (cw (dG all a)) (((dG all a).take to_).drop i))=(dG all a).take j:=by
  unfold sV;split
  ·rename_i c;obtain⟨_,_,j,h3⟩:=h;refine⟨j,?_⟩;rw[h3,<- c.1];try rfl
  ·exact⟨0,by simp⟩
 obtain⟨j,hj⟩:=hg;unfold ef;refine⟨by show(0:Int)<=a;omega,by show(a:Int)<=_;omega,?_⟩
 simp only[hj];exact Iy (dG all a) j i to_ hi ht _ rfl
structure CI (c:Cnf):Prop where
 seg:1<=c.seg
 held:0<=c.held∧c.held<=1000
 win:(0<=c.window∧c.window<=1000000)∧(0<=c.batch∧c.batch<=1000000)
 beat:0<=c.beat∧c.beat<=c.retry∧c.retry<=1000000
 few:c.batch<=c.window
structure FI (p:Bool) (k u:Nat) (all:List Rec) (c:Cnf) (v:Int) (n:Nat) (f:Fw):Prop where
 id_:f.id_=1
 ic:f.ic=3
 st:Sg p k u all n n f.sto
 sure:f.sto.sure=n
 ver:f.sto.ver<=v
 sq:0<=f.sq∧f.sq<=v
 wa:0<=f.wa∧f.wa<=c.retry
 hd:HD all c.held (c.window-c.batch) f.hd
 bo:BI all f.bo
variable {p:Bool} {k u n:Nat} {all:List Rec} {c:Cnf} {v:Int} {f:Fw}
theorem ux (ha:Lg all):∀ (h:List (List Rec)) (n:Int) (out:List Rec),(∀ l∈h,pieceL all l)->(all.length:Int)<=n->fZ h n out=(out,[])
 | [],n,out,_,_=>rfl
 | l::h,n,out,hp,hn=>by
  obtain⟨a,k,h1,h2,rfl⟩:=hp l (List.mem_cons_self ..);unfold fZ;rw[ne ha h1 h2,pI h2,if_neg (by omega),if_neg (by omega)]
  exact ux ha h n out (fun x hx=>hp x (List.mem_cons_of_mem _ hx)) hn
theorem pD (all:List Rec) (a t:Nat):(all.take t).drop a=(all.drop a).take (t-a):=List.drop_take
theorem HU (a t:Nat) (hat:a<=t) (htl:t<=all.length) (hn:f.sto.next=n) (h:a<=n):dP f (cB a ((all.take t).drop a))=(all.drop n).take (t-n):=by
 have hl:((all.take t).drop a).length=t-a:=by rw[zH,zQ];omega
 unfold dP nV;simp only[cB,hl,hn];by_cases c1:n<=t
 ·have e:(if((t-a:Nat):Int)<(n:Int)-a then((t-a:Nat):Int) else(n:Int)-a).toNat=n-a:=by split <;> omega
  rw[e,List.drop_drop,pD];have z:a+(n-a)=n:=by omega
  rw[z]
 ·have e:(if((t-a:Nat):Int)<(n:Int)-a then((t-a:Nat):Int) else(n:Int)-a).toNat=t-a:=by split <;> omega
  have z:t-n=0:=by omega
  rw[e,z,List.take_zero];exact zC (by omega)
theorem Js (a t:Nat) (hn:f.sto.next=n) (h:n<a):dP f (cB a ((all.take t).drop a))=(all.take t).drop a:=by
 unfold dP nV;simp only[cB,hn];have e:(if(((all.take t).drop a).length:Int)<(n:Int)-a then((((all.take t).drop a).length:Nat):Int) else(n:Int)-a).toNat=0:=by split <;> omega
 rw[e,List.drop_zero]
theorem B7 (ha:Lg all) (hh:FI p k u all c v n f) (a t:Nat) (hat:a<=t) (htl:t<=all.length) (h:a<=n):∃ j,n+(t-n)+j<=all.length∧dP f (cB a ((all.take t).drop a))++(fI f (cB a ((all.take t).drop a))).1=(all.drop n).take (t-n+j) ∧
  (fI f (cB a ((all.take t).drop a))).2.Sublist f.hd∧(all.length<=n+(t-n)+j->(fI f (cB a ((all.take t).drop a))).2=[]):=by
 have hn:=hh.st.next;have hle:=hh.st.le;have e:=HU a t hat htl hn h;have hl:((all.drop n).take (t-n)).length=t-n:=by rw[zQ,zH];omega
 unfold fI;rw[e,hl,hn];have e2:(n:Int)+((t-n:Nat):Int)=((n+(t-n):Nat):Int):=by omega
 rw[e2];obtain⟨j,b1,b2,b3,b4⟩:=takeH_law ha f.hd (n+(t-n)) [] hh.hd.pc (by omega)
 refine⟨j,b1,?_,b3,b4⟩;rw[b2,List.nil_append,List.take_add,List.drop_drop]
theorem GK (ha:Lg all) (hh:FI p k u all c v n f) (a t:Nat) (hat:a<=t) (htl:t<=all.length):(dP f (cB a ((all.take t).drop a))++(fI f (cB a ((all.take t).drop a))).1).length<=100 ∧
  ∀ r∈dP f (cB a ((all.take t).drop a))++(fI f (cB a ((all.take t).drop a))).1,r∈all:=by
 have hn:=hh.st.next;have hal:=ha.len;by_cases h:a<=n
 ·obtain⟨j,b1,b2,_⟩:=B7 ha hh a t hat htl h;rw[b2];exact⟨by rw[zQ,zH];omega,fun r hr=>List.mem_of_mem_drop (zZ hr)⟩
 ·have e:=Js (all:=all) a t hn (by omega)
  have hm:∀ r∈(all.take t).drop a,r∈all:=fun r hr=>zZ (List.mem_of_mem_drop hr)
  unfold fI;rw[e,hn];have hl:((all.take t).drop a).length=t-a:=by rw[zH,zQ];omega
  rw[hl];by_cases c1:n+(t-a)<=all.length
  ·have e2:(n:Int)+((t-a:Nat):Int)=((n+(t-a):Nat):Int):=by omega
   rw[e2];obtain⟨j,b1,b2,_⟩:=takeH_law ha f.hd (n+(t-a)) [] hh.hd.pc c1;rw[b2,List.nil_append];refine⟨by rw[zA,hl,zQ,zH];omega,fun r hr=>?_⟩
   rcases zX.1 hr with hr|hr
   ·exact hm r hr
   ·exact List.mem_of_mem_drop (zZ hr)
  ·rw[ux ha f.hd _ [] hh.hd.pc (by omega)]
   refine⟨by rw[List.append_nil,hl];omega,fun r hr=>?_⟩
   rw[List.append_nil] at hr;exact hm r hr
theorem FI.batch (ha:Lg all) (hc:CI c) (hh:FI p k u all c v n f) (hu:u<800000000000) (a t:Nat) (hat:a<=t) (htl:t<=all.length) :
  ∃ n',n<=n'∧(((di f c (cB a ((all.take t).drop a))).2=0∧FI p (k+62) (u+53000) all c (v+32) n' (di f c (cB a ((all.take t).drop a))).1∧(a<=n->t<=n')∧(a<=n->a<t->t=all.length->(di f c (cB a ((all.take t).drop a))).1.hd=[])) ∨
   ((di f c (cB a ((all.take t).drop a))).2=10∧p=false∧Sg p (k+62) (u+53000) all n n' (di f c (cB a ((all.take t).drop a))).1.sto)):=by
 have hn:=hh.st.next;have hal:=ha.len;have hb:=hc.beat;have hv:=hh.ver;have hq:=hh.sq;have hl:((all.take t).drop a).length=t-a:=by rw[zH,zQ];omega
 unfold di;rw[if_pos (show(cB (a:Int) ((all.take t).drop a)).kd=2 from rfl)]
 unfold pf;have e1:(cB (a:Int) ((all.take t).drop a)).rs.length=t-a:=hl;rw[e1];by_cases c1:t-a=0
 ·rw[if_pos c1];refine⟨n,Nat.le_refl _,.inl ⟨rfl,⟨hh.id_,hh.ic,hh.st.up (by omega) (by omega),hh.sure,?_,?_,⟨hb.1,hb.2.1⟩,hh.hd,hh.bo⟩,fun h=>by omega,fun _ h=>by omega⟩⟩
  ·show f.sto.ver<=_;omega
  ·show 0<=f.sq∧f.sq<=_;omega
 ·rw[if_neg c1];have e2:(dC f c).sto.next=n:=hn;have e3:(cB (a:Int) ((all.take t).drop a)).at_=a:=rfl;rw[e2,e3];by_cases c2:(n:Int)<a
  ·rw[if_pos c2];have hput:=hh.hd.put (l:=(all.take t).drop a) (.inr ⟨a,t-a,by omega,by omega,pD all a t⟩) n
   refine⟨n,Nat.le_refl _,.inl ⟨rfl,⟨hh.id_,hh.ic,hh.st.up (by omega) (by omega),hh.sure,?_,?_,⟨hb.1,hb.2.1⟩,hput,hh.bo⟩,fun h=>by omega,fun h=>by omega⟩⟩
   ·show f.sto.ver<=_;omega
   ·show 0<=f.sq∧f.sq<=_;omega
  ·rw[if_neg c2];have han:a<=n:=by omega
   obtain⟨j,b1,b2,b3,b4⟩:=B7 ha hh a t hat htl han;have f1:dP (dC f c) (cB a ((all.take t).drop a))=dP f (cB a ((all.take t).drop a)):=rfl;have f2:fI (dC f c) (cB a ((all.take t).drop a))=fI f (cB a ((all.take t).drop a)):=rfl;rw[f1,f2,b2];have f3:(dC f c).sto=f.sto:=rfl;rw[f3];obtain⟨n',d1,d2,d3,d4,d5⟩:=hh.st.follow ha hh.sure c hc.seg (t-n+j) (by omega) (by omega)
   refine⟨n',d1,?_⟩;rcases d5 with⟨d5,d6,d7⟩|⟨d5,d6⟩
   ·refine .inl ⟨d5,⟨hh.id_,hh.ic,⟨d4.ok.up (by omega) (by omega),d4.idl,d4.wr,d4.le,by rw[d7];omega⟩,d7,?_,?_,⟨hb.1,hb.2.1⟩,hh.hd.sub b3,hh.bo⟩,fun _=>by omega,fun _ _ h=>b4 (by omega)⟩
    ·show(dQ f.sto c _).1.ver<=_;omega
    ·show 0<=f.sq∧f.sq<=_;omega
   ·exact .inr ⟨d5,d6,d4.up (by omega) (by omega)⟩
theorem FI.chunk (ha:Lg all) (hc:CI c) (hh:FI p k u all c v n f) (hu:u<800000000000) (a i t:Nat) (hal:a<=all.length) (hi:i<=(dG all a).length) (ht:i<=t) :
  ∃ n',n<=n'∧(((di f c (fP a i (dG all a).length (cw (dG all a)) (((dG all a).take t).drop i))).2=0∧FI p (k+62) (u+53000) all c (v+32) n' (di f c (fP a i (dG all a).length (cw (dG all a)) (((dG all a).take t).drop i))).1) ∨
   ((di f c (fP a i (dG all a).length (cw (dG all a)) (((dG all a).take t).drop i))).2=10∧p=false∧Sg p (k+62) (u+53000) all n n' (di f c (fP a i (dG all a).length (cw (dG all a)) (((dG all a).take t).drop i))).1.sto)):=by
 have hn:=hh.st.next;have hb:=hc.beat;have hv:=hh.ver;have hq:=hh.sq;have hbc:=BI.chunk (f:=dC f c) (show BI all (dC f c).bo from hh.bo) hal i t hi ht
 obtain⟨m,hm⟩:∃ m,m=fP (a:Int) (i:Nat) ((dG all a).length:Nat) (cw (dG all a)) (((dG all a).take t).drop i):=⟨_,rfl⟩;rw[<- hm] at hbc ⊢;have m1:m.kd=3:=by rw[hm];rfl
 have m2:m.at_=a:=by rw[hm];rfl
 have m3:(ef (dC f c) m).at_=a:=m2;have m4:(ef (dC f c) m).sz=((dG all a).length:Nat):=by rw[hm];rfl
 have m5:(ef (dC f c) m).su=cw (dG all a):=by rw[hm];rfl
 clear hm;have same:∀ b:Boo,BI all b->FI p (k+62) (u+53000) all c (v+32) n { dC f c with bo:=b }:=fun b h=>by
  refine⟨hh.id_,hh.ic,hh.st.up (by omega) (by omega),hh.sure,?_,?_,⟨hb.1,hb.2.1⟩,hh.hd,h⟩
  ·show f.sto.ver<=_;omega
  ·show 0<=f.sq∧f.sq<=_;omega
 unfold di;rw[if_neg (by rw[m1];decide)]
 unfold lV;split
 ·exact⟨n,Nat.le_refl _,.inl ⟨rfl,same _ hh.bo⟩⟩
 ·rename_i c1;simp only[not_or] at c1;rw[m2] at c1;have hna:n<a:=by
   have:(dC f c).sto.next=n:=hn;omega
  split
  ·exact⟨n,Nat.le_refl _,.inl ⟨rfl,same _ hbc⟩⟩
  ·rename_i c2;split
   ·exact⟨n,Nat.le_refl _,.inl ⟨rfl,same _ BI.zero⟩⟩
   ·rename_i c3;simp only[not_or] at c3;have hg:(ef (dC f c) m).got=dG all a:=by
     obtain⟨_,_,j,h3⟩:=hbc;rw[m3] at h3;simp only[Int.toNat_natCast] at h3;rw[m4,h3,zQ] at c2;rw[h3];exact zL (by omega)
    unfold nA;rw[hg,m3];have f3:(dC f c).sto=f.sto:=rfl;rw[f3];obtain⟨d1,d2⟩:=hh.st.inst ha (by omega) hna hal (JN hh.st.ok (a:Int) (x:=dG all a) (by have:=(ha.sn a).2.1;omega))
    rcases d2 with⟨d2,d3,d4⟩|⟨d2,d3,n',d4,d5⟩
    ·rw[if_neg (by rw[d2];decide)]
     refine⟨a,by omega,.inl ⟨rfl,⟨hh.id_,hh.ic,⟨d3.ok.up (by omega) (by omega),d3.idl,d3.wr,d3.le,by rw[d4];omega⟩,d4,?_,?_,⟨hb.1,hb.2.1⟩,hh.hd.rest _,BI.zero⟩⟩⟩
     ·show(bf f.sto _ _).1.ver<=_;omega
     ·show 0<=f.sq∧f.sq<=_;omega
    ·rw[if_pos (by rw[d2];decide)]
     exact⟨n',by omega,.inr ⟨d2,d3,d5.up (by omega) (by omega)⟩⟩
theorem FI.few (ha:Lg all) (hh:FI true k u all c v n f) (hv:v<=300000):FI true 70 300000 all c v n f :=
 ⟨hh.id_,hh.ic,hh.st.few ha (by have:=hh.ver;omega),hh.sure,hh.ver,hh.sq,hh.wa,hh.hd,hh.bo⟩
variable {p:Bool} {k u n:Nat} {all:List Rec} {c:Cnf} {v:Int} {f:Fw}
theorem wO (data:List Txt) (hl:data.length<=30) (hd:∀ d∈data,d.length<=64):Lg (bw data)∧∀ r∈bw data,r.ok:=by
 have hm:∀ r∈bw data,∃ (i:Nat) (hi:i<data.length),r=⟨(i:Nat),(i:Nat),data[i]⟩:=fun r hr=>by
  unfold bw at hr;rw[List.mem_mapIdx] at hr;obtain⟨i,hi,rfl⟩:=hr;exact⟨i,hi,rfl⟩
 refine⟨⟨by rw[iA];exact hl,fun r hr=>?_,fun k hk=>?_⟩,fun r hr=>?_⟩
 ·obtain⟨i,hi,rfl⟩:=hm r hr;have:=hd _ (zN hi);have e:fp (i:Nat)=true:=by unfold fp;simp;omega
  unfold whyF;rw[if_pos ⟨e,e⟩,if_pos this]
 ·simp[bw]
 ·obtain⟨i,hi,rfl⟩:=hm r hr;have:=hd _ (zN hi);refine⟨⟨?_,?_⟩,⟨?_,?_⟩,?_⟩ <;> simp only[] <;> omega
theorem B9 (k0 k1 k2 k3 k4 k5 k6 k7 k8 k9 k10 k11:Nat) (h5:k5<256):CI (ul k0 k1 k2 k3 k4 k5 k6 k7 k8 k9 k10 k11):=by
 refine⟨?_,⟨?_,?_⟩,⟨⟨?_,?_⟩,⟨?_,?_⟩⟩,⟨?_,?_,?_⟩,?_⟩ <;> simp only[ul] <;> omega
theorem yp (hc:CI c):FI true 70 300000 all c 1 0 (pg 1 3 (aI d0).1 c):=by
 have hp:=Lj;have hw:=(De d0_ok.srt (fun _ _=>rfl) zc).1
 have e1:idl true (aI d0).1.disk:=by
  have:(aI d0).1.disk.cap=0∧(aI d0).1.disk.armed=false∧(aI d0).1.disk.down=false:=by decide +kernel
  exact⟨this.1,fun _=>this.2⟩
 have e2:(aI d0).1.sure=0∧(aI d0).1.ver=1:=by decide +kernel
 have hb:=hc.beat;have hh:=hc.held;have hf:=hc.few;refine⟨rfl,rfl,⟨hp.ok.up (by omega) (by omega),e1,⟨0,[],Nat.le_refl _,?_⟩,zP _,?_⟩,e2.1,?_,⟨Int.le_refl _,(by show(0:Int)<=1;decide)⟩,⟨hb.1,hb.2.1⟩,⟨(fun l hl=>by cases hl),List.Pairwise.nil,hh.1,?_⟩,BI.zero⟩
 ·have:staA all 0=[]:=rfl;rw[this];exact hw
 ·show((0:Nat):Int)<=(aI d0).1.sure;rw[e2.1];exact Int.le_refl _
 ·show(aI d0).1.ver<=1;rw[e2.2];exact Int.le_refl _
 ·show((0:Nat):Int)<=_;omega
def Kd (p:Bool) (all:List Rec) (c:Cnf) (v:Int) (n:Nat) (g:Fw) (e:Int) (kd a nn:Nat):Prop :=
 ∃ n',n<=n'∧((e=0∧FI p 132 353000 all c (v+32) n' g∧(kd % 6=0->a % (all.length+1)<=n->tJ all.length (a % (all.length+1)) (nn % 6)<=n') ∧
   (kd % 6=0->a % (all.length+1)<=n->a % (all.length+1)<tJ all.length (a % (all.length+1)) (nn % 6)->tJ all.length (a % (all.length+1)) (nn % 6)=all.length->g.hd=[])) ∨
  (e=10∧p=false∧Sg p 132 353000 all n n' g.sto))
theorem FI.hear (ha:Lg all) (ht:∀ r∈all,r.ok) (hc:CI c) (hh:FI p 70 300000 all c v n f) (kd a i nn:Nat) (hnn:nn<256) :
  call 12 [.agg f.l,.agg c.l,.agg (gC all kd a i nn).l] []=some (p7 f (di f c (gC all kd a i nn)),[])∧Kd p all c v n (di f c (gC all kd a i nn)).1 (di f c (gC all kd a i nn)).2 kd a nn:=by
 have hal:=ha.len;have hat:a % (all.length+1)<=all.length:=by have:=Nat.mod_lt a (show 0<all.length+1 by omega);omega
 have hok:=hh.hd.ok ha ht hc.held.2;have hnx:=hh.st.next;have hle:=hh.st.le;unfold Kd gC;generalize a % (all.length+1)=a0 at *;by_cases c0:kd % 6=0
 ·rw[if_pos c0];obtain⟨j1,j2⟩:=v1 all.length a0 (nn % 6) hat;generalize tJ all.length a0 (nn % 6)=t at *;have hl:((all.take t).drop a0).length=t-a0:=by rw[zH,zQ];omega
  have hmem:∀ r∈(all.take t).drop a0,r∈all:=fun r hr=>zZ (List.mem_of_mem_drop hr)
  obtain⟨n',b1,b2⟩:=hh.batch ha hc (by omega) a0 t j1 j2
  have hml:=GK ha hh a0 t j1 j2;refine⟨?_,n',b1,?_⟩
  ·refine zq f c _ (wR (a0:Int) (by omega) ((all.take t).drop a0) (by omega) (fun i hi=>?_) fun r hr=>ht r (hmem r hr)) rfl hh.id_.symm hh.ic.symm (hh.st.go ha) hok ?_ (by show 0<=(a0:Int)∧(a0:Int)<=1099511627776;omega) (by rw[hnx];omega) hc.seg hc.win hml.1 (fun r hr=>ht r (hml.2 r hr)) (by omega) (by omega) (by omega)
   ·refine⟨ha.why _ (hmem _ (zN hi)),?_⟩;rw[List.getElem_drop,List.getElem_take];have:=ha.num (a0+i) (by omega)
    rw[this];omega
   ·by_cases c1:t-a0=0
    ·exact .inl (hl.trans c1)
    ·exact .inr (ha.rok ht _ ⟨a0,t-a0,by omega,by omega,pD all a0 t⟩)
  ·rcases b2 with⟨b2,b3,b4,b5⟩|b2
   ·exact .inl ⟨b2,b3,fun _=>b4,fun _=>b5⟩
   ·exact .inr b2
 ·rw[if_neg c0];obtain⟨l1,l2,_⟩:=ha.sn a0;have hkk:i % ((dG all a0).length+1)<=(dG all a0).length:=by have:=Nat.mod_lt i (show 0<(dG all a0).length+1 by omega);omega
  generalize i % ((dG all a0).length+1)=i0 at *;obtain⟨j1,j2⟩:=v1 (dG all a0).length i0 nn hkk;have htl:tJ (dG all a0).length i0 nn<=i0+nn:=by unfold tJ;split <;> omega
  generalize tJ (dG all a0).length i0 nn=t at *;obtain⟨n',b1,b2⟩:=hh.chunk ha hc (by omega) a0 i0 t hat hkk j1
  have hdl:(((dG all a0).take t).drop i0).length<=255:=by rw[zH,zQ];omega
  have hbl:=hh.bo.len ha;have hhd:(di f c (fP a0 i0 (dG all a0).length (cw (dG all a0)) (((dG all a0).take t).drop i0))).1.hd.Sublist f.hd:=by
   unfold di;rw[if_neg (show ¬ (fP (a0:Int) (i0:Nat) ((dG all a0).length:Nat) (cw (dG all a0)) (((dG all a0).take t).drop i0)).kd=2 from(by show ¬ (3:Int)=2;decide))]
   unfold lV;split
   ·exact List.Sublist.refl _
   ·split
    ·exact List.Sublist.refl _
    ·split
     ·exact List.Sublist.refl _
     ·unfold nA;split
      ·exact List.Sublist.refl _
      ·exact List.filter_sublist
  refine⟨?_,n',b1,?_⟩
  ·refine A2 f c _ (xx (a0:Int) (by omega) _ _ _ _ (by omega) (by omega) (by omega)) rfl hh.id_.symm hh.ic.symm hh.st.ok (by omega) (by omega) hok (by show -9223372036854775808<=(a0:Int)∧(a0:Int)<9223372036854775808;omega) (by show f.bo.got.length+(((dG all a0).take t).drop i0).length<=20000;omega) ?_
   have:=hhd.length_le;have:=hok.len;unfold di at *;rw[if_neg (show ¬ (fP (a0:Int) (i0:Nat) ((dG all a0).length:Nat) (cw (dG all a0)) (((dG all a0).take t).drop i0)).kd=2 from(by show ¬ (3:Int)=2;decide))] at *
   omega
  ·rcases b2 with⟨b2,b3⟩|b2
   ·exact .inl ⟨b2,b3,fun h=>absurd h c0,fun h=>absurd h c0⟩
   ·exact .inr b2
abbrev dz:List L:=[.d (.l []),zI 0,zB false,zI 0,zB false]
theorem I2:call 55 [.agg dz] []=some (vl [],[]):=by
 apply ah Sf rfl;(simp(disch:=first|decide|omega|(intros;exact aj rfl rfl)|simp only[aa]) only[aF,QM,go_sem,seval,ak])
 refine aB (m:=0) (σ:=Unit) (fun _=>0) (fun _=>True) (fun _=>[V.one (.p 0 0),V.one (.sl 1 1 0 0),vi 0]) (fun _=>[.cells dz,.arr 1 [] 0]) (fun _=>((vl [],[]):V × Hp)) ?_ () trivial _ _ ?_
 rotate_left
 ·exact cm
 intro _ _ R hR;clear hR;(simp(disch:=first|decide|omega|(intros;exact aj rfl rfl)|simp only[aa]) only[aF,Kq,QM,go_sem,seval,ak])
 try simp[trim]
theorem Iu:call 33 [.agg dz,vl []] []=some (.tup [(true,dz),(false,[zI 0])],[]):=by
 have q:=I2;apply ah Sx rfl;(simp(disch:=first|decide|omega|(intros;exact aj rfl rfl)|simp only[aa]) only[aF,Pu,q,go_sem,seval,ak])
 refine aB (m:=0) (σ:=Unit) (fun _=>0) (fun _=>True) (fun _=>[vl [],V.one (.p 0 0),V.one (.p 1 0),vl [],vi 0]) (fun _=>[.cells dz,.cells [.ns,zI 0,zB false,zI 0,zB false]]) (fun _=>((.tup [(true,dz),(false,[zI 0])],[]):V × Hp)) ?_ () trivial _ _ ?_
 rotate_left
 ·exact cm
 intro _ _ R hR;clear hR;(simp(disch:=first|decide|omega|(intros;exact aj rfl rfl)|simp only[aa]) only[aF,Ka,Pu,go_sem,seval,ak])
 try simp[trim]
theorem Bv:call 10 [.agg d0.l] []=some (dA ((aI d0).1,0),[]):=by
 have e:aI d0=((aI d0).1,0):=by rw[<- zc]
 have q1:=AG d0 (by decide) List.Pairwise.nil [109]
 have q2:=Dq d0 d0_ok (by decide) (by decide)
 rw[e] at q2;have q3:=Iu;have e3:bZ d0.files [109]=([],7):=by decide +kernel
 rw[e3] at q1;generalize (aI d0).1=st at *;simp only[dA,Sto.l,Dsk.l,d0,List.map_nil,List.cons_append,List.nil_append] at q1 q2 ⊢;have q4:call 27 [.agg dz] []=some (.tup [(true,[.d (.l (st.disk.files.map Fil.enc)),zI st.disk.cap,zB st.disk.armed,zI st.disk.left,zB st.disk.down,zI st.ver,.d (.l (st.segs.map Seg.enc)),zI st.next,zI st.sure,zI st.size,zW st.sum]),(false,[zI 0])],[]):=by
  apply ah SV rfl;(simp(disch:=first|decide|omega|(intros;exact aj rfl rfl)|simp only[aa]) only[aF,RI,q3,q2,go_sem,seval,ak])
  try simp[trim]
 apply ah Ss rfl;(simp(disch:=first|decide|omega|(intros;exact aj rfl rfl)|simp only[aa]) only[aF,RZ,q1,q4,go_sem,seval,ak])
 try simp[trim]
def Pn:Mg:=⟨0,0,0,0,0,0,0,0,0,0,0,0,0,[],[]⟩
def exD:List Txt:=[[97,49],[98,50],[99,51],[100,52],[101,53]]
def exC:Cnf:=ul 0 80 0 39 0 200 3 0 0 0 0 0
def Ps:Fw:=pg 1 3 (aI d0).1 exC
def M8:Fw × Int:=di Ps exC (gC (bw exD) 0 0 0 1)
def L0:Fw × Int:=di M8.1 exC (gC (bw exD) 0 3 0 2)
def MV:Fw × Int:=di L0.1 exC (gC (bw exD) 0 1 0 2)
theorem N4:tW M8.1 L0.1=false∧L0.1.hd.length=1:=by decide +kernel
theorem Ov:tW L0.1 MV.1=true∧MV.2=0∧MV.1.sto.next=5∧MV.1.hd.length=0:=by decide +kernel
theorem wm:call 7 [] []=some (vb true,[]):=by
 have hl:=wO exD (by decide) (by decide)
 have hc:CI exC:=B9 _ _ _ _ _ _ _ _ _ _ _ _ (by decide)
 have q1:call 8 [.agg ([zU 0,zU 80,zU 0,zU 39,zU 0,zU 200,zU 3,zU 0,zU 0,zU 0,zU 0,zU 0]:List L)] []=some (.agg exC.l,[]):=uH 0 80 0 39 0 200 3 0 0 0 0 0 (by decide) (by decide) (by decide) (by decide) (by decide) (by decide) (by decide) (by decide) (by decide) (by decide) (by decide) (by decide)
 have q2:=Bv;have q3:=sK 1 3 (aI d0).1 exC;have q4:=nE exD (by decide)
 have h5:=(yp hc (all:=bw exD)).hear hl.1 hl.2 hc 0 0 0 1 (by decide)
 obtain⟨q5,n1,_,⟨_,f1,_⟩|⟨_,h,_⟩⟩:=h5;rotate_left
 ·cases h
 have h6:=(f1.few hl.1 (by decide)).hear hl.1 hl.2 hc 0 3 0 2 (by decide)
 obtain⟨q6,n2,_,⟨_,f2,_⟩|⟨_,h,_⟩⟩:=h6;rotate_left
 ·cases h
 have h7:=(f2.few hl.1 (by decide)).hear hl.1 hl.2 hc 0 1 0 2 (by decide)
 obtain⟨q7,_⟩:=h7;have hd:∀ r∈bw exD,r.da.length<=64:=by decide
 have g5:call 13 [vl ((bw exD).map Rec.enc),.agg ([zU 0,zU 0,zU 0,zU 1,zI 0,zI 0,zI 0,zI 0,zI 0,zI 0,zI 0,zI 0,zI 0,zI 0,zI 0,zI 0,zW 0,.d (.s []),.d (.l [])]:List L)] []=some (.agg (gC (bw exD) 0 0 0 1).l,[]):=ga (bw exD) hd (by decide) 0 0 0 1 (by decide) (by decide) (by decide) (by decide) Pn
 have g6:call 13 [vl ((bw exD).map Rec.enc),.agg ([zU 0,zU 3,zU 0,zU 2,zI 0,zI 0,zI 0,zI 0,zI 0,zI 0,zI 0,zI 0,zI 0,zI 0,zI 0,zI 0,zW 0,.d (.s []),.d (.l [])]:List L)] []=some (.agg (gC (bw exD) 0 3 0 2).l,[]):=ga (bw exD) hd (by decide) 0 3 0 2 (by decide) (by decide) (by decide) (by decide) Pn
 have g7:call 13 [vl ((bw exD).map Rec.enc),.agg ([zU 0,zU 1,zU 0,zU 2,zI 0,zI 0,zI 0,zI 0,zI 0,zI 0,zI 0,zI 0,zI 0,zI 0,zI 0,zI 0,zW 0,.d (.s []),.d (.l [])]:List L)] []=some (.agg (gC (bw exD) 0 1 0 2).l,[]):=ga (bw exD) hd (by decide) 0 1 0 2 (by decide) (by decide) (by decide) (by decide) Pn
 have e6:=N4;have e7:=Ov;clear f1 f2 hd hl hc;have x5:di Ps exC (gC (bw exD) 0 0 0 1)=M8:=rfl;have x6:di M8.1 exC (gC (bw exD) 0 3 0 2)=L0:=rfl;have x7:di L0.1 exC (gC (bw exD) 0 1 0 2)=MV:=rfl;have x3:pg 1 3 (aI d0).1 exC=Ps:=rfl;rw[x3] at q5 q6 q7 q3;rw[x5] at q5 q6 q7;rw[x6] at q6 q7;rw[x7] at q7;clear x3 x5 x6 x7;have hD:exD.map eX=[[.s [97,49]],[.s [98,50]],[.s [99,51]],[.s [100,52]],[.s [101,53]]]:=rfl;rw[hD] at q4;generalize gC (bw exD) 0 0 0 1=M5 at *;generalize gC (bw exD) 0 3 0 2=M6 at *;generalize gC (bw exD) 0 1 0 2=M7 at *;generalize (bw exD).map Rec.enc=RL at *;generalize Ps=F at *;generalize M8=G at *;generalize L0=H at *;generalize MV=I at *;generalize exC=c at *;generalize (aI d0).1=st at *;obtain⟨G,ge⟩:=G;obtain⟨H,he⟩:=H;obtain⟨I,ie⟩:=I;simp only at e6 e7 q5 q6 q7;obtain⟨e6,e6'⟩:=e6;obtain⟨e7,e8,e9,e10⟩:=e7;simp only[p7,e6,e7,e8,Fw.l,Cnf.l,Mg.l,dA,Sto.l,Dsk.l,d0,List.map_nil,List.cons_append,List.nil_append,e9] at q1 q2 q3 q5 q6 q7 g5 g6 g7;apply ah s7 rfl;(simp(disch:=first|decide|omega|(intros;exact aj rfl rfl)|simp only[aa]) only[aF,a7,q1,q2,q3,q4,g5,q5,g6,q6,g7,q7,e6',e10,zM,go_sem,seval,ak,bI,A.kind,A.xs,aD,A.isN])
 try simp[trim]
theorem JY (l:List Rec) (hl:l.length<=1000) (hr:∀ r∈l,r.ok):call 14 [vl (l.map Rec.enc)] []=some (vi (f7 l:Nat),[]):=by
 have hb:=nT l;apply ah SM rfl;(simp(disch:=first|decide|omega|(intros;exact aj rfl rfl)|simp only[aa]) only[aF,Rh,zM,go_sem,seval,ak])
 refine aB (m:=0) (σ:=Nat × Nat) (fun t=>l.length-t.1) (fun t=>t.1<=l.length∧t.2+f7 (l.drop t.1)=f7 l) (fun t=>[vl (l.map Rec.enc),vi t.2,vi t.1]) (fun _=>[]) (fun _=>(vi (f7 l:Nat),[])) ?_ (0,0) ⟨zP _,by simp⟩ _ _ cm
 rintro⟨i,n⟩ ⟨h1,h2⟩ R hR;simp only at h1 h2 ⊢;by_cases c:i<l.length
 ·have hc:(i:Int)<(l.length:Int):=by omega
  have g1:(l.map Rec.enc)[i]?=some l[i].enc:=by rw[zG,zE c];rfl
  rw[uh l i c] at h2;have q:=qz l[i] (hr _ (zN c));have hK:=hR (i+1,n+gc l[i]) (by simp only[];omega) ⟨by simp only[];omega,by simp only[];omega⟩
  clear hR;generalize l[i]=r at *;obtain⟨a,b,d⟩:=r;simp only[Rec.enc,List.map_cons,List.map_nil] at g1 q;have e:((n+gc ⟨a,b,d⟩:Nat):Int)=(n:Int)+(gc ⟨a,b,d⟩:Nat):=by omega
  simp only[e] at hK;generalize gc ⟨a,b,d⟩=z at *;(simp(disch:=first|decide|omega|(intros;exact aj rfl rfl)|simp only[aa]) only[aF,F0,zT hc,g1,q,zM,go_sem,seval,ak])
  exact hK _ _ cm
 ·have hc:¬ (i:Int)<(l.length:Int):=by omega
  rw[zC (by omega)] at h2
  have h3:n=f7 l:=by simpa[f7,Gj] using h2
  rw[h3];(simp(disch:=first|decide|omega|(intros;exact aj rfl rfl)|simp only[aa]) only[aF,F0,Rh,zF hc,zM,go_sem,seval,ak])
  try simp[trim]
theorem FI.v_up {p:Bool} {k u n:Nat} {all:List Rec} {c:Cnf} {v v':Int} {f:Fw} (h:FI p k u all c v n f) (hv:v<=v'):FI p k u all c v' n f :=
 ⟨h.id_,h.ic,h.st,h.sure,by have:=h.ver;omega,by have:=h.sq;omega,h.wa,h.hd,h.bo⟩
def eB (n:Nat):List D:=[.i .u8 (n:Nat)]
structure Kn where
 (a b c d e f g h i j k l:Nat)
structure Kn.ok (x:Kn):Prop where
 (a:x.a<256)
 (b:x.b<256)
 (c:x.c<256)
 (d:x.d<256)
 (e:x.e<256)
 (f:x.f<256)
 (g:x.g<256)
 (h:x.h<256)
 (i:x.i<256)
 (j:x.j<256)
 (k:x.k<256)
 (l:x.l<256)
def Kn.cnf (x:Kn):Cnf:=ul x.a x.b x.c x.d x.e x.f x.g x.h x.i x.j x.k x.l
def Kn.ll (x:Kn):List L:=[zU (x.a:Nat),zU (x.b:Nat),zU (x.c:Nat),zU (x.d:Nat),zU (x.e:Nat),zU (x.f:Nat),zU (x.g:Nat),zU (x.h:Nat),zU (x.i:Nat),zU (x.j:Nat),zU (x.k:Nat),zU (x.l:Nat)]
def Fv (x:Kn) (data:List Txt) (l:List Ak):List L:=[zU (x.a:Nat),zU (x.b:Nat),zU (x.c:Nat),zU (x.d:Nat),zU (x.e:Nat),zU (x.f:Nat),zU (x.g:Nat),zU (x.h:Nat),zU (x.i:Nat),zU (x.j:Nat),zU (x.k:Nat),zU (x.l:Nat),.d (.l (data.map eX)),.d (.l (l.map Ak.enc))]
theorem J5 (x:Kn) (h:x.ok):call 8 [.agg x.ll] []=some (.agg x.cnf.l,[]) :=
 uH _ _ _ _ _ _ _ _ _ _ _ _ h.a h.b h.c h.d h.e h.f h.g h.h h.i h.j h.k h.l
theorem KN (x:Kn) (hx:x.ok) (data:List Txt) (hd:data.length<=9223372036854775807) (hds:∀ d∈data,d.length<=9223372036854775807) (l:List Ak) (hl:l.length<=9223372036854775807) (ho:∀ x∈l,x.ok) (sz:List Nat) (hz:sz.length<=9223372036854775807) (hzs:∀ n∈sz,n<256) :
  call 3 [.agg (Fv x data l),vl (sz.map eB)] []=some (vb true,[]):=by
 obtain⟨b,q1,hb⟩:=AB data hd hds l hl ho;have q2:=wm;unfold Fv;apply ah s3 rfl;cases b with
 | false =>
  (simp(disch:=first|decide|omega|(intros;exact aj rfl rfl)|simp only[aa]) only[aF,a3,q1,q2,go_sem,seval,ak])
  try simp[trim]
 | true =>
  obtain⟨h1,h2,h3⟩:=hb rfl;by_cases c1:60<sz.length
  ·have c1':(60:Int)<(sz.length:Int):=by omega
   (simp(disch:=first|decide|omega|(intros;exact aj rfl rfl)|simp only[aa]) only[aF,a3,q1,q2,zT c1',zM,go_sem,seval,ak])
   try simp[trim]
  ·have c1':¬ (60:Int)<(sz.length:Int):=by omega
   have q3:=J5 x hx;have q4:=nE data (by omega)
   have q5:=Bv;have q6:=sK 1 3 (aI d0).1 x.cnf;obtain⟨ha,ht⟩:=wO data h1 h3;have hdl:∀ r∈bw data,r.da.length<=64:=fun r hr=>by
    unfold bw at hr;rw[List.mem_mapIdx] at hr;obtain⟨i,hi,rfl⟩:=hr;exact h3 _ (zN hi)
   have hc:CI x.cnf:=B9 _ _ _ _ _ _ _ _ _ _ _ _ hx.f;have hf:=yp hc (all:=bw data);have q7:=JY (bw data) (by have:=ha.len;omega) ht
   have hal:=ha.len;have hRl:(bw data).length=data.length:=iA data;generalize bw data=all at *;generalize x.cnf=c at *;generalize pg 1 3 (aI d0).1 c=f0 at *;generalize (aI d0).1=st at *;simp only[Kn.ll,Cnf.l,Fw.l,dA,Sto.l,Dsk.l,d0,List.map_nil,List.cons_append,List.nil_append] at q3 q5 q6;(simp(disch:=first|decide|omega|(intros;exact aj rfl rfl)|simp only[aa]) only[aF,a3,q1,q3,q4,q5,q6,zF c1',zM,go_sem,seval,ak])
   refine aB (m:=0) (σ:=Nat × Nat × Fw) (fun t=>l.length-t.1) (fun t=>t.1<=l.length∧FI true 70 300000 all c (1+32*(t.1:Nat)) t.2.1 t.2.2) (fun t=>[vl (sz.map eB),V.one (.p 0 0),V.one (.p 1 0),vl (all.map Rec.enc),V.one (.p 2 0),vi t.1])
    (fun t=>[.cells [zU (x.a:Nat),zU (x.b:Nat),zU (x.c:Nat),zU (x.d:Nat),zU (x.e:Nat),zU (x.f:Nat),zU (x.g:Nat),zU (x.h:Nat),zU (x.i:Nat),zU (x.j:Nat),zU (x.k:Nat),zU (x.l:Nat),.d (.l (data.map eX)),.d (.l (l.map Ak.enc))],.cells c.l,.cells (Fw.l t.2.2)]) (fun _=>((vb true,[]):V × Hp)) ?_ (0,0,f0) ⟨zP _,hf.v_up (by simp only[];omega)⟩ _ _ ?_
   rotate_left
   ·exact cm
   clear q3 q5 q6 hf;rintro⟨i,n,f⟩ ⟨h4,hh⟩ R hR;simp only[Fw.l,Cnf.l] at h4 hh ⊢;by_cases ci:i<l.length
   ·have hci:(i:Int)<(l.length:Int):=by omega
    have g1:(l.map Ak.enc)[i]?=some l[i].enc:=by rw[zG,zE ci];rfl
    have hy:=ho _ (zN ci);have hR2:=fun n g hg=>hR (i+1,n,g) (by simp only[];omega) ⟨by simp only[];omega,hg⟩
    clear hR;generalize l[i]=y at *;have r6:((y.kd:Nat):Int).tmod 6=((y.kd % 6:Nat):Int):=f8 y.kd 6 (by decide)
    simp only[Ak.enc] at g1;by_cases c2:y.kd % 6<2
    ·have c2':((y.kd % 6:Nat):Int)<2:=by omega
     have g2:=ga all hdl (by omega) y.kd y.a y.i y.n hy.kd hy.a hy.i hy.n y.m
     obtain⟨q8,n',_,⟨_,f1,_⟩|⟨_,h,_⟩⟩:=hh.hear ha ht hc y.kd y.a y.i y.n hy.n;rotate_left
     ·cases h
     have hK:=hR2 n' _ ((f1.few ha (by omega)).v_up (by simp only[];omega))
     clear hR2 f1 hh;generalize gC all y.kd y.a y.i y.n=m at *;generalize di f c m=G at *;obtain⟨g,e⟩:=G;simp only[LM,p7,Fw.l,Cnf.l,Mg.l] at g2 q8 hK;(simp(disch:=first|decide|omega|(intros;exact aj rfl rfl)|simp only[aa]) only[aF,Ja,zT hci,g1,r6,zT c2',g2,q8,zM,go_sem,seval,ak,bI,A.kind,A.xs,aD,A.isN])
     exact hK _ _ cm
    ·have c2':¬ ((y.kd % 6:Nat):Int)<2:=by omega
     have hK:=hR2 n f (hh.v_up (by simp only[];omega))
     clear hR2;(simp(disch:=first|decide|omega|(intros;exact aj rfl rfl)|simp only[aa]) only[aF,Ja,zT hci,g1,r6,zF c2',zM,go_sem,seval,ak,bI,A.kind,A.xs,aD,A.isN])
     exact hK _ _ cm
   ·have hci:¬ (i:Int)<(l.length:Int):=by omega
    have hh2:FI true 70 300000 all c 2000 n f:=hh.v_up (by omega)
    clear hR hh;(simp(disch:=first|decide|omega|(intros;exact aj rfl rfl)|simp only[aa]) only[aF,Ja,a3,zF hci,zM,go_sem,seval,ak])
    refine aB (m:=0) (σ:=Nat × Nat × Nat × Fw) (fun t=>100-t.1) (fun t=>t.2.1<=t.1∧t.1<=all.length+5∧FI true 70 300000 all c (2000+32*(t.2.1:Nat)) t.2.2.1 t.2.2.2∧(t.1<=all.length->t.1<=t.2.2.1)∧(all.length<=t.1->all.length<=t.2.2.1∧(all.length=0∨t.2.2.2.hd=[]))) (fun t=>[vl (sz.map eB),V.one (.p 0 0),vl (all.map Rec.enc),V.one (.p 1 0),vi t.1,vi t.2.1])
     (fun t=>[.cells c.l,.cells (Fw.l t.2.2.2)]) (fun _=>((vb true,[]):V × Hp)) ?_ (0,0,n,f) ⟨Nat.le_refl _,by simp only[];omega,hh2.v_up (by simp only[];omega),fun _=>zP _,fun h=>⟨by simp only[] at h ⊢;omega,.inl (by simp only[] at h;omega)⟩⟩ _ _ ?_
    rotate_left
    ·exact cm
    clear hh2;rintro⟨at_,j,n,f⟩ ⟨b1,b2,hh,b3,b4⟩ R hR;simp only[Fw.l,Cnf.l] at b1 b2 hh b3 b4 ⊢;by_cases cj:at_<all.length
    ·have hcj:(at_:Int)<(all.length:Int):=by omega
     have hR2:=fun k (hk:1<=k) n g b1 b2 hg b3 b4=>hR (at_+k,j+1,n,g) (by simp only[];omega) ⟨b1,b2,hg,b3,b4⟩
     clear hR;have b3:=b3 (by omega)
     have key:∀ k,1<=k->k<=5->∃ g:Fw,∃ h:Bool,call 12 [.agg f.l,.agg c.l,.agg (gC all 0 at_ 0 k).l] []=some (.tup [(true,g.l),(false,[zB h]),(false,[zI 0])],[])∧∃ n',at_+k<=all.length+5∧FI true 70 300000 all c (2000+32*((j+1:Nat):Int)) n' g∧(at_+k<=all.length->at_+k<=n')∧(all.length<=at_+k->all.length<=n'∧(all.length=0∨g.hd=[])):=fun k k1 k2=>by
      obtain⟨q8,n',e1,⟨e2,f1,e3,e4⟩|⟨_,h,_⟩⟩:=hh.hear ha ht hc 0 at_ 0 k (by omega)
      rotate_left
      ·cases h
      have z1:at_ % (all.length+1)=at_:=Nat.mod_eq_of_lt (by omega)
      have z2:k % 6=k:=Nat.mod_eq_of_lt (by omega)
      rw[z1,z2] at e3 e4;have e3:=e3 rfl b3;have e4:=e4 rfl b3;refine⟨_,tW f (di f c (gC all 0 at_ 0 k)).1,q8.trans (by unfold p7;rw[e2];try rfl),n',by omega,(f1.few ha (by omega)).v_up (by omega),fun h=>?_,fun h=>?_⟩
      ·unfold tJ at e3;split at e3 <;> omega
      ·have z3:tJ all.length at_ k=all.length:=by unfold tJ;rw[if_neg (by omega)]
       rw[z3] at e3 e4;exact⟨e3,.inr (e4 cj rfl)⟩
     have g2:∀ k:Nat,k<=5->call 13 [vl (all.map Rec.enc),.agg ([zU 0,zU (at_:Nat),zU 0,zU (k:Nat),zI 0,zI 0,zI 0,zI 0,zI 0,zI 0,zI 0,zI 0,zI 0,zI 0,zI 0,zI 0,zW 0,.d (.s []),.d (.l [])]:List L)] []=some (.agg (gC all 0 at_ 0 k).l,[]):=fun k k2=>ga all hdl (by omega) 0 at_ 0 k (by decide) (by omega) (by decide) (by omega) Pn
     clear hh b4;by_cases cz:j<sz.length
     ·have hcz:(j:Int)<(sz.length:Int):=by omega
      have g1:(sz.map eB)[j]?=some (eB sz[j]):=by rw[zG,zE cz];rfl
      have hy:=hzs _ (zN cz);generalize sz[j]=y at *;have r5:((y:Nat):Int).tmod 5=((y % 5:Nat):Int):=f8 y 5 (by decide)
      obtain⟨k,hk⟩:∃ k,k=1+y % 5:=⟨_,rfl⟩;have r6:(1:Int)+((y % 5:Nat):Int)=((k:Nat):Int):=by omega
      have hkk:1<=k∧k<=5:=by omega
      obtain⟨g,hb2,q8,n',c1,c2,c3,c4⟩:=key k hkk.1 hkk.2;replace g2:=g2 k hkk.2
      have hK:=hR2 k hkk.1 n' g (by simp only[];omega) c1 c2 c3 c4
      clear hR2 key c2;generalize gC all 0 at_ 0 k=m at *;simp only[Fw.l,Cnf.l,Mg.l,eB,List.map_nil] at g1 g2 q8 hK;(simp(disch:=first|decide|omega|(intros;exact aj rfl rfl)|simp only[aa]) only[aF,FF,zT hcj,zT hcz,g1,r5,r6,g2,q8,zM,go_sem,seval,ak,bI,A.kind,A.xs,aD,A.isN])
      exact hK _ _ cm
     ·have hcz:¬ (j:Int)<(sz.length:Int):=by omega
      obtain⟨g,hb2,q8,n',c1,c2,c3,c4⟩:=key 1 (by decide) (by decide)
      have g2:call 13 [vl (all.map Rec.enc),.agg ([zU 0,zU (at_:Nat),zU 0,zU 1,zI 0,zI 0,zI 0,zI 0,zI 0,zI 0,zI 0,zI 0,zI 0,zI 0,zI 0,zI 0,zW 0,.d (.s []),.d (.l [])]:List L)] []=some (.agg (gC all 0 at_ 0 1).l,[]):=g2 1 (by decide)
      have hK:=hR2 1 (by decide) n' g (by simp only[];omega) c1 c2 c3 c4
      clear hR2 key c2;generalize gC all 0 at_ 0 1=m at *;simp only[Fw.l,Cnf.l,Mg.l,List.map_nil] at g2 q8 hK;(simp(disch:=first|decide|omega|(intros;exact aj rfl rfl)|simp only[aa]) only[aF,FF,zT hcj,zF hcz,g2,q8,zM,go_sem,seval,ak,bI,A.kind,A.xs,aD,A.isN])
      exact hK _ _ cm
    ·have hcj:¬ (at_:Int)<(all.length:Int):=by omega
     have hnx:=hh.st.next;have hle:=hh.st.le;have b5:=b4 (by omega)
     have hhd:f.hd=[]:=by
      rcases b5.2 with h|h
      ·cases hq:f.hd with
       | nil=>rfl
       | cons z r =>
        obtain⟨a,k,h1,h2,_⟩:=hh.hd.pc z (by rw[hq];simp)
        omega
      ·exact h
     have hn:f.sto.next=(all.length:Nat):=by omega
     have hnl:((f7 all:Nat):Int)≥0:=by omega
     clear hR;(simp(disch:=first|decide|omega|(intros;exact aj rfl rfl)|simp only[aa]) only[aF,FF,a3,zF hcj,q2,hhd,hn,q7,zM,go_sem,seval,ak])
     try simp[trim]
theorem gJ {n:Int} (h1:IntKind.u8.min<=n) (h2:n<=IntKind.u8.max):∃ j:Nat,n=j∧j<256:=by
 have a1:(0:Int)<=n:=h1;have a2:n<=255:=h2;exact⟨n.toNat,by omega,by omega⟩
abbrev QK:List Ty:=[.i .u8,.i .u8,.i .u8,.i .u8,.i .i64,.i .i64,.i .i64,.i .i64,.i .i64,.i .i64,.i .i64,.i .i64,.i .i64,.i .i64,.i .i64,.i .i64,.i .u32,.s,.l [.i .i64,.i .i64,.s]]
theorem Ak.of (r:List D) (h:cI QK r):∃ x:Ak,r=x.enc∧x.ok:=by
 simp only[cI,Ek] at h;obtain⟨_,_,rfl,⟨a,rfl,a1,a2⟩,_,_,rfl,⟨b,rfl,b1,b2⟩,_,_,rfl,⟨c,rfl,c1,c2⟩,_,_,rfl,⟨d,rfl,d1,d2⟩,_,_,rfl,⟨e0,rfl,_⟩,_,_,rfl,⟨e1,rfl,_⟩,_,_,rfl,⟨e2,rfl,_⟩,_,_,rfl,⟨e3,rfl,_⟩,
  _,_,rfl,⟨e4,rfl,_⟩,_,_,rfl,⟨e5,rfl,_⟩,_,_,rfl,⟨e6,rfl,_⟩,_,_,rfl,⟨e7,rfl,_⟩,_,_,rfl,⟨e8,rfl,_⟩,_,_,rfl,⟨e9,rfl,_⟩,_,_,rfl,⟨e10,rfl,_⟩,_,_,rfl,⟨e11,rfl,_⟩,_,_,rfl,⟨su,rfl,_⟩,_,_,rfl,⟨da,rfl,_⟩,_,_,rfl,⟨rows,rfl,hl,hr⟩,rfl⟩:=h
 obtain⟨rs,rfl,hrs⟩:=lS Rec.of rows hr;obtain⟨a',rfl,ha⟩:=gJ a1 a2;obtain⟨b',rfl,hb⟩:=gJ b1 b2;obtain⟨c',rfl,hc⟩:=gJ c1 c2;obtain⟨d',rfl,hd⟩:=gJ d1 d2;exact⟨⟨a',b',c',d',⟨e0,e1,e2,e3,e4,e5,e6,e7,e8,e9,e10,e11,su,da,rs⟩⟩,rfl,ha,hb,hc,hd,by simpa using hl,hrs⟩
theorem Mk (r:List D) (h:cI [.s] r):∃ x:Txt,r=eX x∧x.length<=9223372036854775807:=by
 simp only[cI,Ek] at h;obtain⟨_,_,rfl,⟨x,rfl,hx⟩,rfl⟩:=h;exact⟨x,rfl,hx⟩
theorem Jl (r:List D) (h:cI [.i .u8] r):∃ x:Nat,r=eB x∧x<256:=by
 simp only[cI,Ek] at h;obtain⟨_,_,rfl,⟨x,rfl,a1,a2⟩,rfl⟩:=h;obtain⟨x',rfl,hx⟩:=gJ a1 a2;exact⟨x',rfl,hx⟩
abbrev Kb:List Ty:=[.i .u8,.i .u8,.i .u8,.i .u8,.i .u8,.i .u8,.i .u8,.i .u8,.i .u8,.i .u8,.i .u8,.i .u8,.l [.s],.l QK]
theorem Ay (T:List Ty) (ds:List D) (h:cI [.i .u8,.i .u8,.i .u8,.i .u8,.i .u8,.i .u8,.i .u8,.i .u8,.i .u8,.i .u8,.i .u8,.i .u8,.l [.s],.l T] ds) :
  ∃ (x:Kn) (rows rows2:List (List D)),ds=[.i .u8 (x.a:Nat),.i .u8 (x.b:Nat),.i .u8 (x.c:Nat),.i .u8 (x.d:Nat),.i .u8 (x.e:Nat),.i .u8 (x.f:Nat),.i .u8 (x.g:Nat),.i .u8 (x.h:Nat),.i .u8 (x.i:Nat),.i .u8 (x.j:Nat),.i .u8 (x.k:Nat),.i .u8 (x.l:Nat),.l rows,.l rows2]∧x.ok∧(rows.length<=9223372036854775807∧∀ r∈rows,cI [.s] r)∧(rows2.length<=9223372036854775807∧∀ r∈rows2,cI T r):=by
 simp only[cI,Ek] at h;obtain⟨_,_,rfl,⟨a0,rfl,a1,a2⟩,_,_,rfl,⟨b0,rfl,b1,b2⟩,_,_,rfl,⟨c0,rfl,c1,c2⟩,_,_,rfl,⟨d0,rfl,d1,d2⟩,_,_,rfl,⟨e0,rfl,e1,e2⟩,_,_,rfl,⟨f0,rfl,f1,f2⟩,_,_,rfl,⟨g0,rfl,g1,g2⟩,_,_,rfl,⟨h0,rfl,h1,h2⟩,_,_,rfl,⟨i0,rfl,i1,i2⟩,_,_,rfl,⟨j0,rfl,j1,j2⟩,_,_,rfl,⟨k0,rfl,k1,k2⟩,_,_,rfl,⟨l0,rfl,l1,l2⟩,_,_,rfl,⟨rows,rfl,m1,m2⟩,_,_,rfl,⟨rows2,rfl,n1,n2⟩,rfl⟩:=h;obtain⟨a,rfl,a3⟩:=gJ a1 a2;obtain⟨b,rfl,b3⟩:=gJ b1 b2;obtain⟨c,rfl,c3⟩:=gJ c1 c2;obtain⟨d,rfl,d3⟩:=gJ d1 d2;obtain⟨e,rfl,e3⟩:=gJ e1 e2;obtain⟨f,rfl,f3⟩:=gJ f1 f2;obtain⟨g,rfl,g3⟩:=gJ g1 g2;obtain⟨h,rfl,h3⟩:=gJ h1 h2;obtain⟨i,rfl,i3⟩:=gJ i1 i2;obtain⟨j,rfl,j3⟩:=gJ j1 j2;obtain⟨k,rfl,k3⟩:=gJ k1 k2;obtain⟨l,rfl,l3⟩:=gJ l1 l2;refine⟨⟨a,b,c,d,e,f,g,h,i,j,k,l⟩,rows,rows2,rfl,⟨a3,b3,c3,d3,e3,f3,g3,h3,i3,j3,k3,l3⟩,⟨m1,fun r hr=>?_⟩,n1,n2⟩
 simp only[cI,Ek];exact m2 r hr
theorem DI (v:V) (h:Ox (true,Kb) v):∃ (x:Kn) (data:List Txt) (l:List Ak),v=.agg (Fv x data l)∧x.ok∧(data.length<=9223372036854775807∧∀ d∈data,d.length<=9223372036854775807)∧(l.length<=9223372036854775807∧∀ x∈l,x.ok):=by
 obtain⟨ds,rfl,hd⟩:=h;obtain⟨x,rows,rows2,rfl,hx,⟨m1,m2⟩,n1,n2⟩:=Ay QK ds hd;obtain⟨data,rfl,hda⟩:=lS Mk rows m2;obtain⟨l,rfl,hl⟩:=lS Ak.of rows2 n2;exact⟨x,data,l,rfl,hx,⟨by simpa using m1,hda⟩,by simpa using n1,hl⟩
theorem followerCuts_pure (xs:List V) (h:KM [(true,Kb),(false,[.l [.i .u8]])] xs):call 3 xs []=some (vb true,[]):=by
 obtain⟨_,_,rfl,h1,_,_,rfl,h2,rfl⟩:=h;obtain⟨x,data,l,rfl,hx,hd,hl⟩:=DI _ h1;obtain⟨_,rfl,h2⟩:=h2;simp only[cI,Ek] at h2;obtain⟨_,_,e,⟨rows,rfl,hz,hr⟩,rfl⟩:=h2;obtain⟨sz,rfl,hs⟩:=lS Jl rows hr;cases e;exact KN x hx data hd.1 hd.2 l hl.1 hl.2 sz (by simpa using hz) hs
end Go.Proofs.YtgoifbjgmgbihaaGreat
