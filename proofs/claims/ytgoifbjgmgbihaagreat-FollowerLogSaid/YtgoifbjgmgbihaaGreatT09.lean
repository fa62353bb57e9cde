import Derived.Test.YtgoifbjgmgbihaaGreatT08
import Derived.Test.YtgoifbjgmgbihaaGreatVid
import Derived.Test.YtgoifbjgmgbihaaGreatT07
import Derived.Test.YtgoifbjgmgbihaaGreatT05
import Derived.Test.YtgoifbjgmgbihaaGreatT02
set_option linter.unusedSimpArgs false
set_option linter.unusedVariables false
set_option maxRecDepth 20000
set_option maxHeartbeats 16000000
namespace Go.Proofs.YtgoifbjgmgbihaaGreat
open Go.Vi
structure Ak where
 kd:Nat
 a:Nat
 i:Nat
 n:Nat
 m:Mg
def Ak.enc (x:Ak):List D:=[.i .u8 (x.kd:Nat),.i .u8 (x.a:Nat),.i .u8 (x.i:Nat),.i .u8 (x.n:Nat),.i .i64 x.m.kd,.i .i64 x.m.fr,.i .i64 x.m.tt,.i .i64 x.m.ic,.i .i64 x.m.pe,.i .i64 x.m.sq,.i .i64 x.m.at_,.i .i64 x.m.wi,.i .i64 x.m.hi,.i .i64 x.m.wa,.i .i64 x.m.ix,.i .i64 x.m.sz,.i .u32 x.m.su,.s x.m.da,.l (x.m.rs.map Rec.enc)]
structure Ak.ok (x:Ak):Prop where
 kd:x.kd<256
 a:x.a<256
 i:x.i<256
 n:x.n<256
 rl:x.m.rs.length<=9223372036854775807
 rs:∀ r∈x.m.rs,r.ok
def HW (data:List Txt) (l:List Ak) (b:Bool):Prop:=b=true->data.length<=30∧l.length<=60∧∀ d∈data,d.length<=64
theorem A1 (data:List Txt) (hd:data.length<=9223372036854775807) (hds:∀ d∈data,d.length<=9223372036854775807) (l:List Ak) (hl:l.length<=9223372036854775807) (ho:∀ x∈l,x.ok) :
  ∃ b,call 6 [vl (data.map eX),vl (l.map Ak.enc)] []=some (vb b,[])∧HW data l b:=by
 suffices h:∃ z:V × Hp,call 6 [vl (data.map eX),vl (l.map Ak.enc)] []=some z∧∃ b,z=(vb b,[])∧HW data l b by
  obtain⟨z,h1,b,rfl,h2⟩:=h;exact⟨b,h1,h2⟩
 have no:HW data l false:=fun h=>by cases h
 apply Bl s6 rfl;by_cases c1:30<data.length
 ·have c1':(30:Int)<(data.length:Int):=by omega
  refine bC ?_ a6.eq_1 (zT c1') @zM;exact⟨_,rfl,false,by simp[trim],no⟩
 ·have c1':¬ (30:Int)<(data.length:Int):=by omega
  by_cases c2:60<l.length
  ·have c2':(60:Int)<(l.length:Int):=by omega
   refine bC ?_ a6.eq_1 (zF c1') (zT c2') @zM;exact⟨_,rfl,false,by simp[trim],no⟩
  ·have c2':¬ (60:Int)<(l.length:Int):=by omega
   have q1:=n5 data (by omega)
   have q2:=zw (bG data) 30 (by rw[kh];omega) (fun r hr=>by
    unfold bG at hr;rw[List.mem_mapIdx] at hr;obtain⟨i,hi,rfl⟩:=hr;refine⟨⟨?_,?_⟩,⟨?_,?_⟩,hds _ (zN hi)⟩ <;> simp only[] <;> omega)
   generalize Ew (bG data) 30=b0 at *;cases b0 with
   | false =>
    refine bC ?_ a6.eq_1 (zF c1') (zF c2') q1 q2 @zM;exact⟨_,rfl,false,by simp[trim],no⟩
   | true =>
    refine bC ?_ a6.eq_1 (zF c1') (zF c2') q1 q2 @zM;refine BV (m:=0) (σ:=Nat) (fun i=>data.length-i) (fun i=>i<=data.length∧∀ d∈data.take i,d.length<=64) (fun i=>[vl (data.map eX),vl (l.map Ak.enc),vi i]) (fun _=>[]) (fun z=>∃ b,z=(vb b,[])∧HW data l b) ?_ 0 ⟨zP _,by simp⟩ _ _ ?_
    rotate_left
    ·exact bO
    rintro i ⟨h1,h2⟩ R hR;by_cases c:i<data.length
    ·have hc:(i:Int)<(data.length:Int):=by omega
     have g1:(data.map eX)[i]?=some [.s data[i]]:=by rw[zG,zE c];rfl
     by_cases c3:64<data[i].length
     ·have c3':(64:Int)<(data[i].length:Int):=by omega
      refine bC ?_ Jl.eq_1 (zT hc) g1 (zT c3') @zM;exact⟨_,rfl,false,by simp[trim],no⟩
     ·have c3':¬ (64:Int)<(data[i].length:Int):=by omega
      have hK:=hR (i+1) (by omega) ⟨by omega,fun d hd=>by
       rw[zO c] at hd;rcases zX.1 hd with hd|hd
       ·exact h2 d hd
       ·rw[zV.1 hd];omega⟩
      clear hR;refine bC ?_ Jl.eq_1 (zT hc) g1 (zF c3') @zM;exact hK _ _ bO
    ·have hc:¬ (i:Int)<(data.length:Int):=by omega
     rw[zL (by omega)] at h2
     clear hR;refine bC ?_ Jl.eq_1 a6.eq_1 (zF hc) @zM;refine BV (m:=0) (σ:=Nat) (fun i=>l.length-i) (fun i=>i<=l.length) (fun i=>[vl (l.map Ak.enc),vi i]) (fun _=>[]) (fun z=>∃ b,z=(vb b,[])∧HW data l b) ?_ 0 (zP _) _ _ ?_
     rotate_left
     ·exact bO
     intro j h3 R hR;by_cases c4:j<l.length
     ·have hc4:(j:Int)<(l.length:Int):=by omega
      have g1:(l.map Ak.enc)[j]?=some l[j].enc:=by rw[zG,zE c4];rfl
      have hx:=ho _ (zN c4);have q3:=zw l[j].m.rs 70 hx.rl hx.rs;have hK:=hR (j+1) (by omega) (by omega)
      clear hR;generalize l[j]=x at *;generalize Ew x.m.rs 70=b1 at *;simp only[Ak.enc] at g1;cases b1 with
      | false =>
       refine bC ?_ Dz.eq_1 (zT hc4) g1 q3 @zM;exact⟨_,rfl,false,by simp[trim],no⟩
      | true =>
       by_cases c5:(5000:Int)<(x.m.da.length:Int)
       ·refine bC ?_ Dz.eq_1 (zT hc4) g1 q3 (zT c5) @zM;exact⟨_,rfl,false,by simp[trim],no⟩
       ·refine bC ?_ Dz.eq_1 (zT hc4) g1 q3 (zF c5) @zM;exact hK _ _ bO
     ·have hc4:¬ (j:Int)<(l.length:Int):=by omega
      refine bC ?_ Dz.eq_1 a6.eq_1 (zF hc4) @zM;exact⟨_,rfl,true,by simp[trim],fun _=>⟨by omega,by omega,h2⟩⟩
structure Lg (all:List Rec):Prop where
 len:all.length<=30
 why:∀ r∈all,whyF r=0
 num:numB 0 all
structure Sg (p:Bool) (k u:Nat) (all:List Rec) (lo n:Nat) (s:Sto):Prop where
 ok:okS k u s
 idl:idl p s.disk
 wr:∃ (f:Nat) (S:Txt),f<=n∧WR (f:Int) S (staA all f) s ((all.take n).drop f)
 le:n<=all.length
 sure:(lo:Int)<=s.sure
variable {p:Bool} {k u lo n:Nat} {all:List Rec} {s:Sto}
theorem Sg.next (h:Sg p k u all lo n s):s.next=n:=by
 obtain⟨f,S,hf,hw⟩:=h.wr;have:=hw.next;have:=h.le;rw[zH,zQ] at *;omega
theorem Sg.len (h:Sg p k u all lo n s) (ha:Lg all):1<=s.segs.length∧s.segs.length<=31:=by
 obtain⟨f,S,hf,hw⟩:=h.wr;have h1:=hw.segs_le;have:=ha.len;rw[zH,zQ] at h1;omega
theorem Sg.up {k' u':Nat} (h:Sg p k u all lo n s) (hk:k<=k') (hu:u<=u'):Sg p k' u' all lo n s:=⟨h.ok.up hk hu,h.idl,h.wr,h.le,h.sure⟩
theorem Sg.few (h:Sg true k u all lo n s) (ha:Lg all) (hv:s.ver<=300000):Sg true 70 300000 all lo n s:=by
 obtain⟨f,S,hf,hw⟩:=h.wr;have:=ha.len;exact⟨hw.few h.ok (h.idl.2 rfl).2 (by rw[zH,zQ];omega) hv,h.idl,h.wr,h.le,h.sure⟩
theorem Sg.go (h:Sg p k u all lo n s) (ha:Lg all):Go1 k u 30 s:=by
 obtain⟨f,S,hf,hw⟩:=h.wr;have:=ha.len;exact⟨h.ok,f,S,_,_,hw,by rw[zH,zQ];omega⟩
theorem Sg.app (h:Sg p k u all lo n s) (ha:Lg all) (hu:u<1000000000000) {seg:Int} (hseg:1<=seg) (hn:n<all.length) :
  (eu s seg all[n]).1.ver<=s.ver+1∧(((eu s seg all[n]).2=0∧Sg p (k+2) (u+1000) all lo (n+1) (eu s seg all[n]).1)∨((eu s seg all[n]).2=10∧p=false∧Sg p (k+2) (u+1000) all lo n (eu s seg all[n]).1)):=by
 have hi:=PA h.idl (by have:=h.len ha;omega) seg all[n]
 have hok:=C0 h.ok seg all[n];have hnx:=h.next;obtain⟨f,S,hf,hw⟩:=h.wr;have hlo:=h.sure;have hw2:=hw.app h.ok hseg hu all[n];have hat:=ha.num n hn;have hwy:=ha.why _ (zN hn);have hl:=ha.len;refine⟨hi.2,?_⟩;rcases hw2.2.2 with⟨e,_,_,_,_,h1⟩|⟨h1,⟨_,_,e⟩|⟨_,_,e⟩|e|⟨e,_⟩⟩
 ·refine .inl ⟨e,hok,hi.1.1,⟨f,S,by omega,?_⟩,hn,by have:=hw2.1;omega⟩
  have e2:(all.take (n+1)).drop f=(all.take n).drop f++[all[n]]:=by
   rw[zO hn,List.drop_append_of_le_length (by rw[zQ];omega)]
  rw[e2];exact h1
 ·exfalso;rcases e with e|e
  ·exact e hwy
  ·exact e (by rw[hat,hnx];omega)
 ·exfalso;omega
 ·exact absurd e hi.1.2.1
 ·refine .inr ⟨e,?_,hok,hi.1.1,⟨f,S,hf,h1⟩,h.le,by have:=hw2.1;omega⟩
  cases p with
  | false=>rfl
  | true=>exact absurd e (hi.1.2.2 rfl)
theorem Sg.apps (ha:Lg all) {seg:Int} (hseg:1<=seg):∀ (j:Nat) {k u n:Nat} {s:Sto},Sg p k u all lo n s->n+j<=all.length->u+1000*j<1000000000000 ->
  ∃ n',n<=n'∧n'<=n+j∧(kA seg ((all.drop n).take j) s).1.ver<=s.ver+j∧Sg p (k+2*j) (u+1000*j) all lo n' (kA seg ((all.drop n).take j) s).1∧(((kA seg ((all.drop n).take j) s).2=0∧n'=n+j)∨((kA seg ((all.drop n).take j) s).2=10∧p=false))
 | 0,k,u,n,s,h,_,_=>⟨n,Nat.le_refl _,by omega,by rw[List.take_zero];show s.ver<=_;omega,by rw[List.take_zero];exact h,by rw[List.take_zero];exact .inl ⟨rfl,rfl⟩⟩
 | j+1,k,u,n,s,h,hn,hu=>by
  have hn2:n<all.length:=by omega
  have e:(all.drop n).take (j+1)=all[n]::(all.drop (n+1)).take j:=by rw[zD hn2,List.take_succ_cons]
  rw[e];have h1:=h.app ha (by omega) hseg hn2
  unfold kA;rcases h1.2 with⟨e1,h2⟩|⟨e1,hp,h2⟩
  ·rw[if_neg (by simp[e1])]
   obtain⟨n',a1,a2,a3,a4,a5⟩:=Sg.apps ha hseg j h2 (by omega) (by omega)
   refine⟨n',by omega,by omega,by omega,a4.up (by omega) (by omega),?_⟩
   rcases a5 with⟨a5,a6⟩|a5
   ·exact .inl ⟨a5,by omega⟩
   ·exact .inr a5
  ·rw[if_pos (by rw[e1];decide)]
   exact⟨n,by omega,by omega,by omega,h2.up (by omega) (by omega),.inr ⟨e1,hp⟩⟩
theorem Cc (all:List Rec) (f n:Nat) (f':Int) (h1:(f:Int)<=f') (h2:f'<=n):EX (staA all f) f ((all.take n).drop f) f'=staA all f'.toNat:=by
 unfold EX staA cL;rw[<- List.foldl_append];congr 1
 have e:all.take f'.toNat=all.take f++((all.take f'.toNat).drop f):=by
  have:=zY f (all.take f'.toNat);rw[List.take_take] at this;have e3:min f f'.toNat=f:=by omega
  rw[e3] at this;exact this.symm
 rw[e];congr 1
 have e4:f'.toNat=f+(f'-f).toNat:=by omega
 have e5:all.take f'.toNat=(all.take n).take f'.toNat:=by
  rw[List.take_take];congr 1;omega
 rw[e5];conv=>rhs;rw[List.drop_take]
 congr 1;omega
theorem Sg.sync (h:Sg p k u all lo n s):(aU s).1.ver=s.ver∧Sg p k u all lo n (aU s).1∧(((aU s).2=0∧(aU s).1.sure=n)∨((aU s).2=10∧p=false)):=by
 have hi:=Lj (p:=p) h.idl;have hnx:=h.next;have hlo:=h.sure;have hok:=kM h.ok;obtain⟨f,S,hf,hw⟩:=h.wr;have hsn:=hw.sure;have hs:=hw.sync h.ok;have hsu:(lo:Int)<=(aU s).1.sure:=by
  have e:(aU s).1.sure=if(aj s.disk (ct s.disk.files (fileN s.last.base))).2=0 then s.next else s.sure:=rfl
  rw[e];split <;> omega
 refine⟨hi.2,⟨hok,hi.1.1,⟨f,S,hf,hs.1⟩,h.le,hsu⟩,?_⟩;rcases hs.2 with h1|h1
 ·exact .inl ⟨h1.1,by rw[h1.2.1];exact hnx⟩
 ·refine .inr ⟨h1.1,?_⟩;cases p with
  | false=>rfl
  | true=>exact absurd h1.1 (hi.1.2.2 rfl)
theorem Sg.trim (h:Sg p k u all lo n s) (ha:Lg all) (hu:u<1000000000000) (keep count:Int):(cM s keep count).1.ver<=s.ver+1∧(cM s keep count).1.sure=s.sure∧Sg p (k+2) (u+23000) all lo n (cM s keep count).1∧((cM s keep count).2=0∨((cM s keep count).2=10∧p=false)):=by
 have hi:=Od (p:=p) h.idl keep count;have hok:=If h.ok (fun g hg=>by have:=(h.go ha).base g hg;omega) keep count
 have hnx:=h.next;have hlo:=h.sure;obtain⟨f,S,hf,hw⟩:=h.wr;obtain⟨f',S',l0',h1,h2,h3,h4,_,h6,_,h8,_⟩:=hw.trim h.ok hu keep count;refine⟨hi.2,h6,⟨hok,hi.1.1,⟨f'.toNat,S',by omega,?_⟩,h.le,by omega⟩,?_⟩
 ·have e1:((f'.toNat:Nat):Int)=f':=by omega
  rw[e1,<- Cc all f n f' h1 (by omega),<- h3]
  have e2:(all.take n).drop f'.toNat=((all.take n).drop f).drop (f'-f).toNat:=by
   rw[List.drop_drop];congr 1;omega
  rw[e2];exact h4
 ·rcases h8 with h8|h8|h8
  ·exact .inl h8
  ·exact absurd h8 hi.1.2.1
  ·refine .inr ⟨h8.1,?_⟩;cases p with
   | false=>rfl
   | true=>exact absurd h8.1 (hi.1.2.2 rfl)
theorem Sg.follow (h:Sg p k u all lo n s) (ha:Lg all) (hs:s.sure=n) (c:Cnf) (hseg:1<=c.seg) (j:Nat) (hj:n+j<=all.length) (hu:u<900000000000) :
  ∃ n',n<=n'∧n'<=n+j∧(dW s c ((all.drop n).take j)).1.ver<=s.ver+j+1∧Sg p (k+2*j+2) (u+1000*j+23000) all lo n' (dW s c ((all.drop n).take j)).1 ∧
   (((dW s c ((all.drop n).take j)).2=0∧n'=n+j∧(dW s c ((all.drop n).take j)).1.sure=n')∨((dW s c ((all.drop n).take j)).2=10∧p=false)):=by
 have hal:=ha.len;have hnx:=h.next;obtain⟨n',a1,a2,a3,a4,a5⟩:=Sg.apps ha hseg j h hj (by omega)
 have hlo:=a4.next;unfold dW xY;have hsu:∀ l s,s.sure=(n:Int)->(kA c.seg l s).1.next=n->True:=fun _ _ _ _=>trivial
 generalize hq:kA c.seg ((all.drop n).take j) s=q at *;obtain⟨t,e⟩:=q;simp only at *;rcases a5 with⟨e1,e2⟩|⟨e1,hp⟩
 ·subst e1;rw[if_neg (by decide),hnx,hlo]
  by_cases c1:(n:Int)<n'
  ·rw[if_pos c1];obtain⟨b1,b2,b3⟩:=a4.sync;rcases b3 with⟨b3,b4⟩|⟨b3,b4⟩
   ·rw[if_neg (by simp[b3])]
    obtain⟨d1,d2,d3,d4⟩:=b2.trim ha (by omega) c.keep c.count
    unfold qJ;rcases d4 with d4|⟨d4,d5⟩
    ·rw[if_neg (by rw[d4];decide)]
     exact⟨n',a1,a2,by simp only[];omega,d3.up (by omega) (by omega),.inl ⟨rfl,e2,d2.trans b4⟩⟩
    ·rw[if_pos d4];exact⟨n',a1,a2,by simp only[];omega,d3.up (by omega) (by omega),.inr ⟨rfl,d5⟩⟩
   ·rw[if_pos (by rw[b3];decide)]
    exact⟨n',a1,a2,by omega,b2.up (by omega) (by omega),.inr ⟨b3,b4⟩⟩
  ·rw[if_neg c1];have hj0:j=0:=by omega
   subst hj0;rw[List.take_zero] at hq;have ht:t=s:=(congrArg Prod.fst hq).symm;subst ht;obtain⟨d1,d2,d3,d4⟩:=a4.trim ha (by omega) c.keep c.count
   unfold qJ;rcases d4 with d4|⟨d4,d5⟩
   ·rw[if_neg (by rw[d4];decide)]
    exact⟨n',a1,a2,by simp only[];omega,d3.up (by omega) (by omega),.inl ⟨rfl,e2,d2.trans (by rw[hs];omega)⟩⟩
   ·rw[if_pos d4];exact⟨n',a1,a2,by simp only[];omega,d3.up (by omega) (by omega),.inr ⟨rfl,d5⟩⟩
 ·subst e1;rw[if_pos rfl];exact⟨n',a1,a2,by simp only[];omega,a4.up (by omega) (by omega),.inr ⟨rfl,hp⟩⟩
variable {all:List Rec}
def pieceL (all l:List Rec):Prop:=∃ a k:Nat,1<=k∧a+k<=all.length∧l=(all.drop a).take k
theorem DQ {a:Nat} (h:a<all.length) (k:Nat):(all.drop a).take (k+1)=all[a]::(all.drop (a+1)).take k:=by
 rw[zD h,List.take_succ_cons]
theorem kN (ha:Lg all) {a k:Nat} (h1:1<=k) (h2:a+k<=all.length):frst ((all.drop a).take k)=a:=by
 obtain⟨j,rfl⟩:∃ j,k=j+1:=⟨k-1,by omega⟩
 rw[DQ (by omega)]
 have:=ha.num a (by omega)
 show all[a].at_=_;omega
theorem iN {a k:Nat} (h2:a+k<=all.length):((all.drop a).take k).length=k:=by
 rw[zQ,zH];omega
theorem Lg.rok (ha:Lg all) (ht:∀ r∈all,r.ok):∀ l,pieceL all l->okB l:=by
 rintro l ⟨a,k,h1,h2,rfl⟩;have:=ha.len;refine⟨by rw[iN h2];omega,by rw[kN ha h1 h2];omega,fun r hr=>ht r (List.mem_of_mem_drop (zZ hr))⟩
structure HD (all:List Rec) (most bytes:Int) (h:List (List Rec)):Prop where
 pc:∀ l∈h,pieceL all l
 srt:h.Pairwise fun a b=>frst a<frst b
 cnt:(h.length:Int)<=most
 byt:(bytH h:Int)<=bytes
variable {most bytes:Int} {h:List (List Rec)}
theorem HD.ok (hi:HD all most bytes h) (ha:Lg all) (ht:∀ r∈all,r.ok) (hm:most<=1000):okH h :=
 ⟨by have:=hi.cnt;omega,fun l hl=>ha.rok ht l (hi.pc l hl),hi.srt⟩
theorem sw:∀ {a b:List (List Rec)},a.Sublist b->bytH a<=bytH b
 | _,_,.slnil=>Nat.le_refl _
 | _,_,.cons x h=>by have:=sw h;simp only[bytH];omega
 | _,_,.cons_cons x h=>by have:=sw h;simp only[bytH];omega
theorem HD.sub (hi:HD all most bytes h) {h':List (List Rec)} (hs:h'.Sublist h):HD all most bytes h' :=
 ⟨fun l hl=>hi.pc l (hs.subset hl),hi.srt.sublist hs,by have:=hs.length_le;have:=hi.cnt;omega,by have:=sw hs;have:=hi.byt;omega⟩
theorem HD.rest (hi:HD all most bytes h) (a:Int):HD all most bytes (dY h a):=hi.sub List.filter_sublist
theorem tV:∀ a b:List (List Rec),bytH (a++b)=bytH a+bytH b
 | [],b=>by simp[bytH]
 | x::a,b=>by simp only[List.cons_append,bytH,tV a b];omega
theorem HD.put (hi:HD all most bytes h) {l:List Rec} (hl:l.length=0∨pieceL all l) (next:Int):HD all most bytes (E4 h l next most bytes):=by
 unfold E4;split
 ·exact hi
 ·rename_i c;simp only[not_or] at c;obtain⟨c1,c2,c3,c4,c5⟩:=c;have hp:=hl.resolve_left c1;have hlt:=xO hi.srt (frst l);have hle:=w9 h (frst l);have hcat:h.take (du h (frst l))++h.drop (du h (frst l))=h:=zY _ _;refine⟨fun x hx=>?_,?_,?_,?_⟩
  ·rcases zX.1 hx with hx|hx
   ·exact hi.pc x (zZ hx)
   ·rcases List.mem_cons.1 hx with rfl|hx
    ·exact hp
    ·exact hi.pc x (List.mem_of_mem_drop hx)
  ·have hs:=hi.srt;rw[<- hcat] at hs;have hs2:=List.pairwise_append.1 hs;have hA:∀ x∈h.take (du h (frst l)),frst x<frst l:=fun x hx=>by
    obtain⟨i,hii,rfl⟩:=zJ hx;rw[zQ] at hii;rw[List.getElem_take];exact(hlt i (by omega)).2 (by omega)
   have hB:∀ x∈h.drop (du h (frst l)),frst l<frst x:=fun x hx=>by
    obtain⟨i,hii,rfl⟩:=zJ hx;rw[zH] at hii;rw[List.getElem_drop];have h1:=(hlt (du h (frst l)) (by omega)).1
    have h2:frst h[du h (frst l)]≠frst l:=fun e=>c4 (by
     unfold wq;rw[zE (by omega)]
     simp[e])
    have h0:¬ frst h[du h (frst l)]<frst l:=fun e=>Nat.lt_irrefl _ (h1 e)
    by_cases ci:i=0
    ·subst ci;simp only[Nat.add_zero];omega
    ·have h3:frst h[du h (frst l)]<frst h[du h (frst l)+i]:=List.pairwise_iff_getElem.1 hi.srt _ _ _ _ (by omega)
     omega
   exact List.pairwise_append.2 ⟨hs2.1,List.pairwise_cons.2 ⟨hB,hs2.2.1⟩,fun a hA' b hb=>by
    rcases List.mem_cons.1 hb with rfl|hb
    ·exact hA a hA'
    ·exact hs2.2.2 a hA' b hb⟩
  ·have:(h.take (du h (frst l))++l::h.drop (du h (frst l))).length=h.length+1:=by
    rw[zA,List.length_cons,zQ,zH];omega
   rw[this];omega
  ·have:bytH (h.take (du h (frst l))++l::h.drop (du h (frst l)))=bytH h+fu l:=by
    have e:bytH h=bytH (h.take (du h (frst l)))+bytH (h.drop (du h (frst l))):=by rw[<- tV,hcat]
    rw[tV,e];show _+(fu l+_)=_;omega
   rw[this];omega
theorem takeH_law (ha:Lg all):∀ (h:List (List Rec)) (n:Nat) (out:List Rec),(∀ l∈h,pieceL all l)->n<=all.length ->
  ∃ j,n+j<=all.length∧(gp h n out).1=out++(all.drop n).take j∧(gp h n out).2.Sublist h∧(all.length<=n+j->(gp h n out).2=[])
 | [],n,out,_,hn=>⟨0,hn,by simp[gp],List.Sublist.slnil,fun _=>rfl⟩
 | l::h,n,out,hp,hn=>by
  have hp':∀ x∈h,pieceL all x:=fun x hx=>hp x (List.mem_cons_of_mem _ hx)
  obtain⟨a,k,h1,h2,rfl⟩:=hp l (List.mem_cons_self ..);unfold gp;rw[kN ha h1 h2,iN h2];by_cases c1:(n:Int)<a
  ·rw[if_pos c1];exact⟨0,hn,by simp,List.Sublist.refl _,fun h=>by omega⟩
  ·rw[if_neg c1];by_cases c2:(n:Int)<(a:Int)+(k:Nat)
   ·rw[if_pos c2];have e:(a:Int)+(k:Nat)=((a+k:Nat):Int):=by omega
    rw[e];obtain⟨j,b1,b2,b3,b4⟩:=takeH_law ha h (a+k) (out++((all.drop a).take k).drop ((n:Int)-a).toNat) hp' h2;refine⟨a+k-n+j,by omega,?_,b3.cons _,fun h=>b4 (by omega)⟩
    rw[b2,List.append_assoc];congr 1
    have e1:((n:Int)-a).toNat=n-a:=by omega
    have e2:((all.drop a).take k).drop (n-a)=(all.drop n).take (a+k-n):=by
     rw[List.drop_take,List.drop_drop];have z1:a+(n-a)=n:=by omega
     have z2:k-(n-a)=a+k-n:=by omega
     rw[z1,z2]
    rw[e1,e2,List.take_add,List.drop_drop];have z3:n+(a+k-n)=a+k:=by omega
    rw[z3]
   ·rw[if_neg c2];obtain⟨j,b1,b2,b3,b4⟩:=takeH_law ha h n out hp' hn;exact⟨j,b1,b2,b3.cons _,b4⟩
variable {p:Bool} {k u lo n:Nat} {all:List Rec} {s:Sto}
theorem Lg.sta (ha:Lg all) (a:Nat):gd (staA all a)∧okV (staA all a)∧(staA all a).length<=30:=by
 have hd:∀ r∈all.take a,r.da.length<=64:=fun r hr=>by
  have hw:=ha.why r (zZ hr);unfold whyF at hw;split at hw
  ·split at hw
   ·assumption
   ·exact absurd hw (by decide)
  ·exact absurd hw (by decide)
 have h1:=lY (all.take a) [] List.Pairwise.nil (fun p hp=>by cases hp) hd
 have h2:=ql (all.take a) [] (fun p hp=>by cases hp) hd
 refine⟨h1.1,h2,?_⟩;have h3:=h1.2.2;have:=ha.len;rw[zQ] at h3;have e:(staA all a).length=(cL [] (all.take a)).length:=rfl;rw[e];simp only[List.length_nil] at h3;omega
theorem Lg.sn (ha:Lg all) (a:Nat):1<=(dO all a).length∧(dO all a).length<=2300∧aR (dO all a)=some (staA all a):=by
 obtain⟨h1,h2,h3⟩:=ha.sta a;have h4:=vn h2.okP (by omega)
 have h5:=rm h1 h2;exact⟨h5.1,by unfold dO;omega,qZ h1 h2⟩
theorem Sg.inst (h:Sg p k u all lo n s) (ha:Lg all) (hu:u<1000000000000) {a:Nat} (hna:n<a) (hal:a<=all.length) (hk:okS (k+3) (u+30000) (bf s a (dO all a)).1) :
  (bf s a (dO all a)).1.ver<=s.ver+1∧(((bf s a (dO all a)).2=0∧Sg p (k+3) (u+30000) all lo a (bf s a (dO all a)).1∧(bf s a (dO all a)).1.sure=a) ∨
   ((bf s a (dO all a)).2=10∧p=false∧∃ n',(n'=n∨n'=a)∧Sg p (k+3) (u+30000) all lo n' (bf s a (dO all a)).1)):=by
 have hi:=Pp (p:=p) h.idl a (dO all a);have hnx:=h.next;have hlo:=h.sure;obtain⟨h1,h2,h3⟩:=ha.sn a;obtain⟨f,S,hf,hw⟩:=h.wr;have hws:=hw.sure;have hlen:=ha.len;have h5:=hw.inst h.ok hu a (x:=dO all a) (by omega)
 have hp10:(bf s a (dO all a)).2=10->p=false:=fun e=>by
  cases p with
  | false=>rfl
  | true=>exact absurd e (hi.1.2.2 rfl)
 refine⟨hi.2,?_⟩;rcases h5 with⟨_,_,e|e|e⟩|⟨q,hq,_,_,⟨e1,e2,e3,e4,e5⟩|⟨e1,e2,e3,e4,e5⟩⟩
 ·rw[h3] at e;cases e
 ·omega
 ·omega
 ·rcases e1 with⟨e1,_⟩|⟨e1,_⟩
  ·exact absurd e1 hi.1.2.1
  ·refine .inr ⟨e1,hp10 e1,n,.inl rfl,hk,hi.1.1,⟨f,S,hf,e5⟩,h.le,?_⟩;rw[e2];exact hlo
 ·rw[h3] at hq;cases hq;have hsg:Sg p (k+3) (u+30000) all lo a (bf s a (dO all a)).1:=by
   refine⟨hk,hi.1.1,⟨a,dO all a,Nat.le_refl _,?_⟩,hal,by omega⟩
   rw[zC (by rw[zQ];omega)]
   exact e2
  rcases e1 with⟨e1,_⟩|⟨e1,_⟩
  ·exact .inl ⟨e1,hsg,e4⟩
  ·exact .inr ⟨e1,hp10 e1,a,.inr rfl,hsg⟩
def BI (all:List Rec) (b:Boo):Prop:=0<=b.at_∧b.at_<=all.length∧∃ j,b.got=(dO all b.at_.toNat).take j
theorem BI.zero:BI all bw:=⟨Int.le_refl _,by show(0:Int)<=_;omega,0,by simp[bw]⟩
theorem BI.len (ha:Lg all) {b:Boo} (h:BI all b):b.got.length<=2300:=by
 obtain⟨h1,h2,j,h3⟩:=h;have:=(ha.sn b.at_.toNat).2.1;rw[h3,zQ];omega
theorem JB (S:Txt) (j i to_:Nat) (hi:i<=S.length) (ht:i<=to_) (x:Int) (hx:x=(i:Nat)):∃ j',(if x=((S.take j).length:Nat) then S.take j++(S.take to_).drop i else S.take j)=S.take j':=by
 split
 ·rename_i c;refine⟨to_,?_⟩;have e:S.take j=S.take i:=by
   rw[zQ] at c;by_cases c2:j<=S.length
   ·have:j=i:=by omega
    rw[this]
   ·have:i=S.length:=by omega
    rw[zL (by omega),this,List.take_length]
  rw[e];have:=zY i (S.take to_);rw[List.take_take,Nat.min_eq_left ht] at this;exact this
 ·exact⟨j,rfl⟩
theorem BI.chunk {f:Fw} (h:BI all f.bo) {a:Nat} (hal:a<=all.length) (i to_:Nat) (hi:i<=(dO all a).length) (ht:i<=to_) :
  BI all (eb f (gj (a:Int) (i:Nat) ((dO all a).length:Nat) (cB (dO all a)) (((dO all a).take to_).drop i))):=by
 have hg:∃ j,sV f (gj (a:Int) (i:Nat) ((dO all a).length:Nat) (cB (dO all a)) (((dO all a).take to_).drop i))=(dO all a).take j:=by
  unfold sV;split
  ·rename_i c;obtain⟨_,_,j,h3⟩:=h;refine⟨j,?_⟩;rw[h3,<- c.1];try rfl
  ·exact⟨0,by simp⟩
 obtain⟨j,hj⟩:=hg;unfold eb;refine⟨by show(0:Int)<=a;omega,by show(a:Int)<=_;omega,?_⟩
 simp only[hj];exact JB (dO all a) j i to_ hi ht _ rfl
structure CI (c:Cnf):Prop where
 seg:1<=c.seg
 held:0<=c.held∧c.held<=1000
 win:(0<=c.window∧c.window<=1000000)∧(0<=c.batch∧c.batch<=1000000)
 beat:0<=c.beat∧c.beat<=c.retry∧c.retry<=1000000
 few:c.batch<=c.window
structure FI (p:Bool) (k u:Nat) (all:List Rec) (c:Cnf) (v:Int) (n:Nat) (f:Fw):Prop where
 id_:f.id_=1
 ic:f.ic=3
 st:Sg p k u all n n f.sto
 sure:f.sto.sure=n
 ver:f.sto.ver<=v
 sq:0<=f.sq∧f.sq<=v
 wa:0<=f.wa∧f.wa<=c.retry
 hd:HD all c.held (c.window-c.batch) f.hd
 bo:BI all f.bo
variable {p:Bool} {k u n:Nat} {all:List Rec} {c:Cnf} {v:Int} {f:Fw}
theorem vF (ha:Lg all):∀ (h:List (List Rec)) (n:Int) (out:List Rec),(∀ l∈h,pieceL all l)->(all.length:Int)<=n->gp h n out=(out,[])
 | [],n,out,_,_=>rfl
 | l::h,n,out,hp,hn=>by
  obtain⟨a,k,h1,h2,rfl⟩:=hp l (List.mem_cons_self ..);unfold gp;rw[kN ha h1 h2,iN h2,if_neg (by omega),if_neg (by omega)]
  exact vF ha h n out (fun x hx=>hp x (List.mem_cons_of_mem _ hx)) hn
theorem pH (all:List Rec) (a t:Nat):(all.take t).drop a=(all.drop a).take (t-a):=List.drop_take
theorem IX (a t:Nat) (hat:a<=t) (htl:t<=all.length) (hn:f.sto.next=n) (h:a<=n):dR f (cC a ((all.take t).drop a))=(all.drop n).take (t-n):=by
 have hl:((all.take t).drop a).length=t-a:=by rw[zH,zQ];omega
 unfold dR o7;simp only[cC,hl,hn];by_cases c1:n<=t
 ·have e:(if((t-a:Nat):Int)<(n:Int)-a then((t-a:Nat):Int) else(n:Int)-a).toNat=n-a:=by split <;> omega
  rw[e,List.drop_drop,pH];have z:a+(n-a)=n:=by omega
  rw[z]
 ·have e:(if((t-a:Nat):Int)<(n:Int)-a then((t-a:Nat):Int) else(n:Int)-a).toNat=t-a:=by split <;> omega
  have z:t-n=0:=by omega
  rw[e,z,List.take_zero];exact zC (by omega)
theorem K8 (a t:Nat) (hn:f.sto.next=n) (h:n<a):dR f (cC a ((all.take t).drop a))=(all.take t).drop a:=by
 unfold dR o7;simp only[cC,hn];have e:(if(((all.take t).drop a).length:Int)<(n:Int)-a then((((all.take t).drop a).length:Nat):Int) else(n:Int)-a).toNat=0:=by split <;> omega
 rw[e,List.drop_zero]
theorem Ck (ha:Lg all) (hh:FI p k u all c v n f) (a t:Nat) (hat:a<=t) (htl:t<=all.length) (h:a<=n):∃ j,n+(t-n)+j<=all.length∧dR f (cC a ((all.take t).drop a))++(fU f (cC a ((all.take t).drop a))).1=(all.drop n).take (t-n+j) ∧
  (fU f (cC a ((all.take t).drop a))).2.Sublist f.hd∧(all.length<=n+(t-n)+j->(fU f (cC a ((all.take t).drop a))).2=[]):=by
 have hn:=hh.st.next;have hle:=hh.st.le;have e:=IX a t hat htl hn h;have hl:((all.drop n).take (t-n)).length=t-n:=by rw[zQ,zH];omega
 unfold fU;rw[e,hl,hn];have e2:(n:Int)+((t-n:Nat):Int)=((n+(t-n):Nat):Int):=by omega
 rw[e2];obtain⟨j,b1,b2,b3,b4⟩:=takeH_law ha f.hd (n+(t-n)) [] hh.hd.pc (by omega)
 refine⟨j,b1,?_,b3,b4⟩;rw[b2,List.nil_append,List.take_add,List.drop_drop]
theorem Hi (ha:Lg all) (hh:FI p k u all c v n f) (a t:Nat) (hat:a<=t) (htl:t<=all.length):(dR f (cC a ((all.take t).drop a))++(fU f (cC a ((all.take t).drop a))).1).length<=100 ∧
  ∀ r∈dR f (cC a ((all.take t).drop a))++(fU f (cC a ((all.take t).drop a))).1,r∈all:=by
 have hn:=hh.st.next;have hal:=ha.len;by_cases h:a<=n
 ·obtain⟨j,b1,b2,_⟩:=Ck ha hh a t hat htl h;rw[b2];exact⟨by rw[zQ,zH];omega,fun r hr=>List.mem_of_mem_drop (zZ hr)⟩
 ·have e:=K8 (all:=all) a t hn (by omega)
  have hm:∀ r∈(all.take t).drop a,r∈all:=fun r hr=>zZ (List.mem_of_mem_drop hr)
  unfold fU;rw[e,hn];have hl:((all.take t).drop a).length=t-a:=by rw[zH,zQ];omega
  rw[hl];by_cases c1:n+(t-a)<=all.length
  ·have e2:(n:Int)+((t-a:Nat):Int)=((n+(t-a):Nat):Int):=by omega
   rw[e2];obtain⟨j,b1,b2,_⟩:=takeH_law ha f.hd (n+(t-a)) [] hh.hd.pc c1;rw[b2,List.nil_append];refine⟨by rw[zA,hl,zQ,zH];omega,fun r hr=>?_⟩
   rcases zX.1 hr with hr|hr
   ·exact hm r hr
   ·exact List.mem_of_mem_drop (zZ hr)
  ·rw[vF ha f.hd _ [] hh.hd.pc (by omega)]
   refine⟨by rw[List.append_nil,hl];omega,fun r hr=>?_⟩
   rw[List.append_nil] at hr;exact hm r hr
theorem FI.batch (ha:Lg all) (hc:CI c) (hh:FI p k u all c v n f) (hu:u<800000000000) (a t:Nat) (hat:a<=t) (htl:t<=all.length) :
  ∃ n',n<=n'∧(((dA f c (cC a ((all.take t).drop a))).2=0∧FI p (k+62) (u+53000) all c (v+32) n' (dA f c (cC a ((all.take t).drop a))).1∧(a<=n->t<=n')∧(a<=n->a<t->t=all.length->(dA f c (cC a ((all.take t).drop a))).1.hd=[])) ∨
   ((dA f c (cC a ((all.take t).drop a))).2=10∧p=false∧Sg p (k+62) (u+53000) all n n' (dA f c (cC a ((all.take t).drop a))).1.sto)):=by
 have hn:=hh.st.next;have hal:=ha.len;have hb:=hc.beat;have hv:=hh.ver;have hq:=hh.sq;have hl:((all.take t).drop a).length=t-a:=by rw[zH,zQ];omega
 unfold dA;rw[if_pos (show(cC (a:Int) ((all.take t).drop a)).kd=2 from rfl)]
 unfold pI;have e1:(cC (a:Int) ((all.take t).drop a)).rs.length=t-a:=hl;rw[e1];by_cases c1:t-a=0
 ·rw[if_pos c1];refine⟨n,Nat.le_refl _,.inl ⟨rfl,⟨hh.id_,hh.ic,hh.st.up (by omega) (by omega),hh.sure,?_,?_,⟨hb.1,hb.2.1⟩,hh.hd,hh.bo⟩,fun h=>by omega,fun _ h=>by omega⟩⟩
  ·show f.sto.ver<=_;omega
  ·show 0<=f.sq∧f.sq<=_;omega
 ·rw[if_neg c1];have e2:(dH f c).sto.next=n:=hn;have e3:(cC (a:Int) ((all.take t).drop a)).at_=a:=rfl;rw[e2,e3];by_cases c2:(n:Int)<a
  ·rw[if_pos c2];have hput:=hh.hd.put (l:=(all.take t).drop a) (.inr ⟨a,t-a,by omega,by omega,pH all a t⟩) n
   refine⟨n,Nat.le_refl _,.inl ⟨rfl,⟨hh.id_,hh.ic,hh.st.up (by omega) (by omega),hh.sure,?_,?_,⟨hb.1,hb.2.1⟩,hput,hh.bo⟩,fun h=>by omega,fun h=>by omega⟩⟩
   ·show f.sto.ver<=_;omega
   ·show 0<=f.sq∧f.sq<=_;omega
  ·rw[if_neg c2];have han:a<=n:=by omega
   obtain⟨j,b1,b2,b3,b4⟩:=Ck ha hh a t hat htl han;have f1:dR (dH f c) (cC a ((all.take t).drop a))=dR f (cC a ((all.take t).drop a)):=rfl;have f2:fU (dH f c) (cC a ((all.take t).drop a))=fU f (cC a ((all.take t).drop a)):=rfl;rw[f1,f2,b2];have f3:(dH f c).sto=f.sto:=rfl;rw[f3];obtain⟨n',d1,d2,d3,d4,d5⟩:=hh.st.follow ha hh.sure c hc.seg (t-n+j) (by omega) (by omega)
   refine⟨n',d1,?_⟩;rcases d5 with⟨d5,d6,d7⟩|⟨d5,d6⟩
   ·refine .inl ⟨d5,⟨hh.id_,hh.ic,⟨d4.ok.up (by omega) (by omega),d4.idl,d4.wr,d4.le,by rw[d7];omega⟩,d7,?_,?_,⟨hb.1,hb.2.1⟩,hh.hd.sub b3,hh.bo⟩,fun _=>by omega,fun _ _ h=>b4 (by omega)⟩
    ·show(dW f.sto c _).1.ver<=_;omega
    ·show 0<=f.sq∧f.sq<=_;omega
   ·exact .inr ⟨d5,d6,d4.up (by omega) (by omega)⟩
theorem FI.chunk (ha:Lg all) (hc:CI c) (hh:FI p k u all c v n f) (hu:u<800000000000) (a i t:Nat) (hal:a<=all.length) (hi:i<=(dO all a).length) (ht:i<=t) :
  ∃ n',n<=n'∧(((dA f c (gj a i (dO all a).length (cB (dO all a)) (((dO all a).take t).drop i))).2=0∧FI p (k+62) (u+53000) all c (v+32) n' (dA f c (gj a i (dO all a).length (cB (dO all a)) (((dO all a).take t).drop i))).1) ∨
   ((dA f c (gj a i (dO all a).length (cB (dO all a)) (((dO all a).take t).drop i))).2=10∧p=false∧Sg p (k+62) (u+53000) all n n' (dA f c (gj a i (dO all a).length (cB (dO all a)) (((dO all a).take t).drop i))).1.sto)):=by
 have hn:=hh.st.next;have hb:=hc.beat;have hv:=hh.ver;have hq:=hh.sq;have hbc:=BI.chunk (f:=dH f c) (show BI all (dH f c).bo from hh.bo) hal i t hi ht
 obtain⟨m,hm⟩:∃ m,m=gj (a:Int) (i:Nat) ((dO all a).length:Nat) (cB (dO all a)) (((dO all a).take t).drop i):=⟨_,rfl⟩;rw[<- hm] at hbc ⊢;have m1:m.kd=3:=by rw[hm];rfl
 have m2:m.at_=a:=by rw[hm];rfl
 have m3:(eb (dH f c) m).at_=a:=m2;have m4:(eb (dH f c) m).sz=((dO all a).length:Nat):=by rw[hm];rfl
 have m5:(eb (dH f c) m).su=cB (dO all a):=by rw[hm];rfl
 clear hm;have same:∀ b:Boo,BI all b->FI p (k+62) (u+53000) all c (v+32) n { dH f c with bo:=b }:=fun b h=>by
  refine⟨hh.id_,hh.ic,hh.st.up (by omega) (by omega),hh.sure,?_,?_,⟨hb.1,hb.2.1⟩,hh.hd,h⟩
  ·show f.sto.ver<=_;omega
  ·show 0<=f.sq∧f.sq<=_;omega
 unfold dA;rw[if_neg (by rw[m1];decide)]
 unfold mb;split
 ·exact⟨n,Nat.le_refl _,.inl ⟨rfl,same _ hh.bo⟩⟩
 ·rename_i c1;simp only[not_or] at c1;rw[m2] at c1;have hna:n<a:=by
   have:(dH f c).sto.next=n:=hn;omega
  split
  ·exact⟨n,Nat.le_refl _,.inl ⟨rfl,same _ hbc⟩⟩
  ·rename_i c2;split
   ·exact⟨n,Nat.le_refl _,.inl ⟨rfl,same _ BI.zero⟩⟩
   ·rename_i c3;simp only[not_or] at c3;have hg:(eb (dH f c) m).got=dO all a:=by
     obtain⟨_,_,j,h3⟩:=hbc;rw[m3] at h3;simp only[Int.toNat_natCast] at h3;rw[m4,h3,zQ] at c2;rw[h3];exact zL (by omega)
    unfold nB;rw[hg,m3];have f3:(dH f c).sto=f.sto:=rfl;rw[f3];obtain⟨d1,d2⟩:=hh.st.inst ha (by omega) hna hal (KU hh.st.ok (a:Int) (x:=dO all a) (by have:=(ha.sn a).2.1;omega))
    rcases d2 with⟨d2,d3,d4⟩|⟨d2,d3,n',d4,d5⟩
    ·rw[if_neg (by rw[d2];decide)]
     refine⟨a,by omega,.inl ⟨rfl,⟨hh.id_,hh.ic,⟨d3.ok.up (by omega) (by omega),d3.idl,d3.wr,d3.le,by rw[d4];omega⟩,d4,?_,?_,⟨hb.1,hb.2.1⟩,hh.hd.rest _,BI.zero⟩⟩⟩
     ·show(bf f.sto _ _).1.ver<=_;omega
     ·show 0<=f.sq∧f.sq<=_;omega
    ·rw[if_pos (by rw[d2];decide)]
     exact⟨n',by omega,.inr ⟨d2,d3,d5.up (by omega) (by omega)⟩⟩
theorem FI.few (ha:Lg all) (hh:FI true k u all c v n f) (hv:v<=300000):FI true 70 300000 all c v n f :=
 ⟨hh.id_,hh.ic,hh.st.few ha (by have:=hh.ver;omega),hh.sure,hh.ver,hh.sq,hh.wa,hh.hd,hh.bo⟩
theorem FI.turn (hc:CI c) (hh:FI p k u all c v n f):FI p k u all c (v+32) n (oL f c):=by
 have hb:=hc.beat;have hv:=hh.ver;have hq:=hh.sq;have hw:=hh.wa;refine⟨hh.id_,hh.ic,hh.st,hh.sure,?_,?_,?_,hh.hd,hh.bo⟩
 ·show f.sto.ver<=_;omega
 ·show 0<=f.sq+1∧f.sq+1<=_;omega
 ·show 0<=(if c.retry<2*f.wa then c.retry else 2*f.wa)∧(if c.retry<2*f.wa then c.retry else 2*f.wa)<=_
  split <;> omega
variable {p:Bool} {k u n:Nat} {all:List Rec} {c:Cnf} {v:Int} {f:Fw}
theorem xH (data:List Txt) (hl:data.length<=30) (hd:∀ d∈data,d.length<=64):Lg (bG data)∧∀ r∈bG data,r.ok:=by
 have hm:∀ r∈bG data,∃ (i:Nat) (hi:i<data.length),r=⟨(i:Nat),(i:Nat),data[i]⟩:=fun r hr=>by
  unfold bG at hr;rw[List.mem_mapIdx] at hr;obtain⟨i,hi,rfl⟩:=hr;exact⟨i,hi,rfl⟩
 refine⟨⟨by rw[kh];exact hl,fun r hr=>?_,fun k hk=>?_⟩,fun r hr=>?_⟩
 ·obtain⟨i,hi,rfl⟩:=hm r hr;have:=hd _ (zN hi);have e:ep (i:Nat)=true:=by unfold ep;simp;omega
  unfold whyF;rw[if_pos ⟨e,e⟩,if_pos this]
 ·simp[bG]
 ·obtain⟨i,hi,rfl⟩:=hm r hr;have:=hd _ (zN hi);refine⟨⟨?_,?_⟩,⟨?_,?_⟩,?_⟩ <;> simp only[] <;> omega
theorem Ct (k0 k1 k2 k3 k4 k5 k6 k7 k8 k9 k10 k11:Nat) (h5:k5<256):CI (vE k0 k1 k2 k3 k4 k5 k6 k7 k8 k9 k10 k11):=by
 refine⟨?_,⟨?_,?_⟩,⟨⟨?_,?_⟩,⟨?_,?_⟩⟩,⟨?_,?_,?_⟩,?_⟩ <;> simp only[vE] <;> omega
theorem yA (hc:CI c):FI true 70 300000 all c 1 0 (pP 1 3 (aG d0).1 c):=by
 have hp:=No;have hw:=(E3 d0_ok.srt (fun _ _=>rfl) Br).1
 have e1:idl true (aG d0).1.disk:=by
  have:(aG d0).1.disk.cap=0∧(aG d0).1.disk.armed=false∧(aG d0).1.disk.down=false:=by decide +kernel
  exact⟨this.1,fun _=>this.2⟩
 have e2:(aG d0).1.sure=0∧(aG d0).1.ver=1:=by decide +kernel
 have hb:=hc.beat;have hh:=hc.held;have hf:=hc.few;refine⟨rfl,rfl,⟨hp.ok.up (by omega) (by omega),e1,⟨0,[],Nat.le_refl _,?_⟩,zP _,?_⟩,e2.1,?_,⟨Int.le_refl _,(by show(0:Int)<=1;decide)⟩,⟨hb.1,hb.2.1⟩,⟨(fun l hl=>by cases hl),List.Pairwise.nil,hh.1,?_⟩,BI.zero⟩
 ·have:staA all 0=[]:=rfl;rw[this];exact hw
 ·show((0:Nat):Int)<=(aG d0).1.sure;rw[e2.1];exact Int.le_refl _
 ·show(aG d0).1.ver<=1;rw[e2.2];exact Int.le_refl _
 ·show((0:Nat):Int)<=_;omega
def Lh (p:Bool) (all:List Rec) (c:Cnf) (v:Int) (n:Nat) (g:Fw) (e:Int) (kd a nn:Nat):Prop :=
 ∃ n',n<=n'∧((e=0∧FI p 132 353000 all c (v+32) n' g∧(kd % 6=0->a % (all.length+1)<=n->xu all.length (a % (all.length+1)) (nn % 6)<=n') ∧
   (kd % 6=0->a % (all.length+1)<=n->a % (all.length+1)<xu all.length (a % (all.length+1)) (nn % 6)->xu all.length (a % (all.length+1)) (nn % 6)=all.length->g.hd=[])) ∨
  (e=10∧p=false∧Sg p 132 353000 all n n' g.sto))
theorem FI.hear (ha:Lg all) (ht:∀ r∈all,r.ok) (hc:CI c) (hh:FI p 70 300000 all c v n f) (kd a i nn:Nat) (hnn:nn<256) :
  call 12 [.agg f.l,.agg c.l,.agg (kj all kd a i nn).l] []=some (qE f (dA f c (kj all kd a i nn)),[])∧Lh p all c v n (dA f c (kj all kd a i nn)).1 (dA f c (kj all kd a i nn)).2 kd a nn:=by
 have hal:=ha.len;have hat:a % (all.length+1)<=all.length:=by have:=Nat.mod_lt a (show 0<all.length+1 by omega);omega
 have hok:=hh.hd.ok ha ht hc.held.2;have hnx:=hh.st.next;have hle:=hh.st.le;unfold Lh kj;generalize a % (all.length+1)=a0 at *;by_cases c0:kd % 6=0
 ·rw[if_pos c0];obtain⟨j1,j2⟩:=vW all.length a0 (nn % 6) hat;generalize xu all.length a0 (nn % 6)=t at *;have hl:((all.take t).drop a0).length=t-a0:=by rw[zH,zQ];omega
  have hmem:∀ r∈(all.take t).drop a0,r∈all:=fun r hr=>zZ (List.mem_of_mem_drop hr)
  obtain⟨n',b1,b2⟩:=hh.batch ha hc (by omega) a0 t j1 j2
  have hml:=Hi ha hh a0 t j1 j2;refine⟨?_,n',b1,?_⟩
  ·refine A7 f c _ (xS (a0:Int) (by omega) ((all.take t).drop a0) (by omega) (fun i hi=>?_) fun r hr=>ht r (hmem r hr)) rfl hh.id_.symm hh.ic.symm (hh.st.go ha) hok ?_ (by show 0<=(a0:Int)∧(a0:Int)<=1099511627776;omega) (by rw[hnx];omega) hc.seg hc.win hml.1 (fun r hr=>ht r (hml.2 r hr)) (by omega) (by omega) (by omega)
   ·refine⟨ha.why _ (hmem _ (zN hi)),?_⟩;rw[List.getElem_drop,List.getElem_take];have:=ha.num (a0+i) (by omega)
    rw[this];omega
   ·by_cases c1:t-a0=0
    ·exact .inl (hl.trans c1)
    ·exact .inr (ha.rok ht _ ⟨a0,t-a0,by omega,by omega,pH all a0 t⟩)
  ·rcases b2 with⟨b2,b3,b4,b5⟩|b2
   ·exact .inl ⟨b2,b3,fun _=>b4,fun _=>b5⟩
   ·exact .inr b2
 ·rw[if_neg c0];obtain⟨l1,l2,_⟩:=ha.sn a0;have hkk:i % ((dO all a0).length+1)<=(dO all a0).length:=by have:=Nat.mod_lt i (show 0<(dO all a0).length+1 by omega);omega
  generalize i % ((dO all a0).length+1)=i0 at *;obtain⟨j1,j2⟩:=vW (dO all a0).length i0 nn hkk;have htl:xu (dO all a0).length i0 nn<=i0+nn:=by unfold xu;split <;> omega
  generalize xu (dO all a0).length i0 nn=t at *;obtain⟨n',b1,b2⟩:=hh.chunk ha hc (by omega) a0 i0 t hat hkk j1
  have hdl:(((dO all a0).take t).drop i0).length<=255:=by rw[zH,zQ];omega
  have hbl:=hh.bo.len ha;have hhd:(dA f c (gj a0 i0 (dO all a0).length (cB (dO all a0)) (((dO all a0).take t).drop i0))).1.hd.Sublist f.hd:=by
   unfold dA;rw[if_neg (show ¬ (gj (a0:Int) (i0:Nat) ((dO all a0).length:Nat) (cB (dO all a0)) (((dO all a0).take t).drop i0)).kd=2 from(by show ¬ (3:Int)=2;decide))]
   unfold mb;split
   ·exact List.Sublist.refl _
   ·split
    ·exact List.Sublist.refl _
    ·split
     ·exact List.Sublist.refl _
     ·unfold nB;split
      ·exact List.Sublist.refl _
      ·exact List.filter_sublist
  refine⟨?_,n',b1,?_⟩
  ·refine Bk f c _ (xI (a0:Int) (by omega) _ _ _ _ (by omega) (by omega) (by omega)) rfl hh.id_.symm hh.ic.symm hh.st.ok (by omega) (by omega) hok (by show -9223372036854775808<=(a0:Int)∧(a0:Int)<9223372036854775808;omega) (by show f.bo.got.length+(((dO all a0).take t).drop i0).length<=20000;omega) ?_
   have:=hhd.length_le;have:=hok.len;unfold dA at *;rw[if_neg (show ¬ (gj (a0:Int) (i0:Nat) ((dO all a0).length:Nat) (cB (dO all a0)) (((dO all a0).take t).drop i0)).kd=2 from(by show ¬ (3:Int)=2;decide))] at *
   omega
  ·rcases b2 with⟨b2,b3⟩|b2
   ·exact .inl ⟨b2,b3,fun h=>absurd h c0,fun h=>absurd h c0⟩
   ·exact .inr b2
abbrev dz:List L:=[.d (.l []),zI 0,zB false,zI 0,zB false]
theorem KJ:call 55 [.agg dz] []=some (vl [],[]):=by
 apply ae Tv rfl;refine bC ?_ SO.eq_1;refine ax (m:=0) (σ:=Unit) (fun _=>0) (fun _=>True) (fun _=>[V.one (.p 0 0),V.one (.sl 1 1 0 0),vi 0]) (fun _=>[.cells dz,.arr 1 [] 0]) (fun _=>((vl [],[]):V × Hp)) ?_ () trivial _ _ ?_
 rotate_left
 ·exact bO
 intro _ _ R hR;clear hR;refine bC ?_ Lp.eq_1 SO.eq_1;try simp[trim]
theorem JD:call 33 [.agg dz,vl []] []=some (.tup [(true,dz),(false,[zI 0])],[]):=by
 have q:=KJ;apply ae Tu rfl;refine bC ?_ R1.eq_1 q;refine ax (m:=0) (σ:=Unit) (fun _=>0) (fun _=>True) (fun _=>[vl [],V.one (.p 0 0),V.one (.p 1 0),vl [],vi 0]) (fun _=>[.cells dz,.cells [.ns,zI 0,zB false,zI 0,zB false]]) (fun _=>((.tup [(true,dz),(false,[zI 0])],[]):V × Hp)) ?_ () trivial _ _ ?_
 rotate_left
 ·exact bO
 intro _ _ R hR;clear hR;refine bC ?_ Ll.eq_1 R1.eq_1;try simp[trim]
theorem Ce:call 10 [.agg d0.l] []=some (dG ((aG d0).1,0),[]):=by
 have e:aG d0=((aG d0).1,0):=by rw[<- Br]
 have q1:=nI d0 (by decide) List.Pairwise.nil [109]
 have q2:=En d0 d0_ok (by decide) (by decide)
 rw[e] at q2;have q3:=JD;have e3:bS d0.files [109]=([],7):=by decide +kernel
 rw[e3] at q1;generalize (aG d0).1=st at *;simp only[dG,Sto.l,Dsk.l,d0,List.map_nil,List.cons_append,List.nil_append] at q1 q2 ⊢;have q4:call 27 [.agg dz] []=some (.tup [(true,[.d (.l (st.disk.files.map Fil.enc)),zI st.disk.cap,zB st.disk.armed,zI st.disk.left,zB st.disk.down,zI st.ver,.d (.l (st.segs.map Seg.enc)),zI st.next,zI st.sure,zI st.size,zW st.sum]),(false,[zI 0])],[]):=by
  apply ae T8 rfl;refine bC ?_ SP.eq_1 q3 q2;try simp[trim]
 apply ae UA rfl;refine bC ?_ S9.eq_1 q1 q4;try simp[trim]
def Rm:Mg:=⟨0,0,0,0,0,0,0,0,0,0,0,0,0,[],[]⟩
def exD:List Txt:=[[97,49],[98,50],[99,51],[100,52],[101,53]]
def exC:Cnf:=vE 0 80 0 39 0 200 3 0 0 0 0 0
def Qt:Fw:=pP 1 3 (aG d0).1 exC
def Pa:Fw × Int:=dA Qt exC (kj (bG exD) 0 0 0 1)
def NU:Fw × Int:=dA Pa.1 exC (kj (bG exD) 0 3 0 2)
def NY:Fw × Int:=dA NU.1 exC (kj (bG exD) 0 1 0 2)
theorem Oq:sx Pa.1 NU.1=false∧NU.1.hd.length=1:=by decide +kernel
theorem Ou:sx NU.1 NY.1=true∧NY.2=0∧NY.1.sto.next=5∧NY.1.hd.length=0:=by decide +kernel
theorem wM:call 7 [] []=some (vb true,[]):=by
 have hl:=xH exD (by decide) (by decide)
 have hc:CI exC:=Ct _ _ _ _ _ _ _ _ _ _ _ _ (by decide)
 have q1:call 8 [.agg ([zU 0,zU 80,zU 0,zU 39,zU 0,zU 200,zU 3,zU 0,zU 0,zU 0,zU 0,zU 0]:List L)] []=some (.agg exC.l,[]):=uR 0 80 0 39 0 200 3 0 0 0 0 0 (by decide) (by decide) (by decide) (by decide) (by decide) (by decide) (by decide) (by decide) (by decide) (by decide) (by decide) (by decide)
 have q2:=Ce;have q3:=tE 1 3 (aG d0).1 exC;have q4:=n5 exD (by decide)
 have h5:=(yA hc (all:=bG exD)).hear hl.1 hl.2 hc 0 0 0 1 (by decide)
 obtain⟨q5,n1,_,⟨_,f1,_⟩|⟨_,h,_⟩⟩:=h5;rotate_left
 ·cases h
 have h6:=(f1.few hl.1 (by decide)).hear hl.1 hl.2 hc 0 3 0 2 (by decide)
 obtain⟨q6,n2,_,⟨_,f2,_⟩|⟨_,h,_⟩⟩:=h6;rotate_left
 ·cases h
 have h7:=(f2.few hl.1 (by decide)).hear hl.1 hl.2 hc 0 1 0 2 (by decide)
 obtain⟨q7,_⟩:=h7;have hd:∀ r∈bG exD,r.da.length<=64:=by decide
 have g5:call 13 [vl ((bG exD).map Rec.enc),.agg ([zU 0,zU 0,zU 0,zU 1,zI 0,zI 0,zI 0,zI 0,zI 0,zI 0,zI 0,zI 0,zI 0,zI 0,zI 0,zI 0,zW 0,.d (.s []),.d (.l [])]:List L)] []=some (.agg (kj (bG exD) 0 0 0 1).l,[]):=iA (bG exD) hd (by decide) 0 0 0 1 (by decide) (by decide) (by decide) (by decide) Rm
 have g6:call 13 [vl ((bG exD).map Rec.enc),.agg ([zU 0,zU 3,zU 0,zU 2,zI 0,zI 0,zI 0,zI 0,zI 0,zI 0,zI 0,zI 0,zI 0,zI 0,zI 0,zI 0,zW 0,.d (.s []),.d (.l [])]:List L)] []=some (.agg (kj (bG exD) 0 3 0 2).l,[]):=iA (bG exD) hd (by decide) 0 3 0 2 (by decide) (by decide) (by decide) (by decide) Rm
 have g7:call 13 [vl ((bG exD).map Rec.enc),.agg ([zU 0,zU 1,zU 0,zU 2,zI 0,zI 0,zI 0,zI 0,zI 0,zI 0,zI 0,zI 0,zI 0,zI 0,zI 0,zI 0,zW 0,.d (.s []),.d (.l [])]:List L)] []=some (.agg (kj (bG exD) 0 1 0 2).l,[]):=iA (bG exD) hd (by decide) 0 1 0 2 (by decide) (by decide) (by decide) (by decide) Rm
 have e6:=Oq;have e7:=Ou;clear f1 f2 hd hl hc;have x5:dA Qt exC (kj (bG exD) 0 0 0 1)=Pa:=rfl;have x6:dA Pa.1 exC (kj (bG exD) 0 3 0 2)=NU:=rfl;have x7:dA NU.1 exC (kj (bG exD) 0 1 0 2)=NY:=rfl;have x3:pP 1 3 (aG d0).1 exC=Qt:=rfl;rw[x3] at q5 q6 q7 q3;rw[x5] at q5 q6 q7;rw[x6] at q6 q7;rw[x7] at q7;clear x3 x5 x6 x7;have hD:exD.map eX=[[.s [97,49]],[.s [98,50]],[.s [99,51]],[.s [100,52]],[.s [101,53]]]:=rfl;rw[hD] at q4;generalize kj (bG exD) 0 0 0 1=M5 at *;generalize kj (bG exD) 0 3 0 2=M6 at *;generalize kj (bG exD) 0 1 0 2=M7 at *;generalize (bG exD).map Rec.enc=RL at *;generalize Qt=F at *;generalize Pa=G at *;generalize NU=H at *;generalize NY=I at *;generalize exC=c at *;generalize (aG d0).1=st at *;obtain⟨G,ge⟩:=G;obtain⟨H,he⟩:=H;obtain⟨I,ie⟩:=I;simp only at e6 e7 q5 q6 q7;obtain⟨e6,e6'⟩:=e6;obtain⟨e7,e8,e9,e10⟩:=e7;simp only[qE,e6,e7,e8,Fw.l,Cnf.l,Mg.l,dG,Sto.l,Dsk.l,d0,List.map_nil,List.cons_append,List.nil_append,e9] at q1 q2 q3 q5 q6 q7 g5 g6 g7;apply ae s7 rfl;refine dm ?_ a7.eq_1 q1 q2 q3 q4 g5 q5 g6 q6 g7 q7 (And.intro e6' (And.intro e10 @zM));try simp[trim]
theorem JH (l:List Rec) (hl:l.length<=1000) (hr:∀ r∈l,r.ok):call 14 [vl (l.map Rec.enc)] []=some (vi (fu l:Nat),[]):=by
 have hb:=ow l;apply ae TH rfl;refine bC ?_ Sw.eq_1 @zM;refine ax (m:=0) (σ:=Nat × Nat) (fun t=>l.length-t.1) (fun t=>t.1<=l.length∧t.2+fu (l.drop t.1)=fu l) (fun t=>[vl (l.map Rec.enc),vi t.2,vi t.1]) (fun _=>[]) (fun _=>(vi (fu l:Nat),[])) ?_ (0,0) ⟨zP _,by simp⟩ _ _ bO
 rintro⟨i,n⟩ ⟨h1,h2⟩ R hR;simp only at h1 h2 ⊢;by_cases c:i<l.length
 ·have hc:(i:Int)<(l.length:Int):=by omega
  have g1:(l.map Rec.enc)[i]?=some l[i].enc:=by rw[zG,zE c];rfl
  rw[vp l i c] at h2;have q:=rA l[i] (hr _ (zN c));have hK:=hR (i+1,n+gv l[i]) (by simp only[];omega) ⟨by simp only[];omega,by simp only[];omega⟩
  clear hR;generalize l[i]=r at *;obtain⟨a,b,d⟩:=r;simp only[Rec.enc,List.map_cons,List.map_nil] at g1 q;have e:((n+gv ⟨a,b,d⟩:Nat):Int)=(n:Int)+(gv ⟨a,b,d⟩:Nat):=by omega
  simp only[e] at hK;generalize gv ⟨a,b,d⟩=z at *;refine bC ?_ Fk.eq_1 (zT hc) g1 q @zM;exact hK _ _ bO
 ·have hc:¬ (i:Int)<(l.length:Int):=by omega
  rw[zC (by omega)] at h2
  have h3:n=fu l:=by simpa[fu,FE] using h2
  rw[h3];refine bC ?_ Fk.eq_1 Sw.eq_1 (zF hc) @zM;try simp[trim]
theorem FI.v_up {p:Bool} {k u n:Nat} {all:List Rec} {c:Cnf} {v v':Int} {f:Fw} (h:FI p k u all c v n f) (hv:v<=v'):FI p k u all c v' n f :=
 ⟨h.id_,h.ic,h.st,h.sure,by have:=h.ver;omega,by have:=h.sq;omega,h.wa,h.hd,h.bo⟩
structure Kn where
 (a b c d e f g h i j k l:Nat)
structure Kn.ok (x:Kn):Prop where
 (a:x.a<256)
 (b:x.b<256)
 (c:x.c<256)
 (d:x.d<256)
 (e:x.e<256)
 (f:x.f<256)
 (g:x.g<256)
 (h:x.h<256)
 (i:x.i<256)
 (j:x.j<256)
 (k:x.k<256)
 (l:x.l<256)
def Kn.cnf (x:Kn):Cnf:=vE x.a x.b x.c x.d x.e x.f x.g x.h x.i x.j x.k x.l
def Kn.ll (x:Kn):List L:=[zU (x.a:Nat),zU (x.b:Nat),zU (x.c:Nat),zU (x.d:Nat),zU (x.e:Nat),zU (x.f:Nat),zU (x.g:Nat),zU (x.h:Nat),zU (x.i:Nat),zU (x.j:Nat),zU (x.k:Nat),zU (x.l:Nat)]
def Ix (x:Kn) (data:List Txt) (l:List Ak):List L:=[zU (x.a:Nat),zU (x.b:Nat),zU (x.c:Nat),zU (x.d:Nat),zU (x.e:Nat),zU (x.f:Nat),zU (x.g:Nat),zU (x.h:Nat),zU (x.i:Nat),zU (x.j:Nat),zU (x.k:Nat),zU (x.l:Nat),.d (.l (data.map eX)),.d (.l (l.map Ak.enc))]
theorem Jm (x:Kn) (h:x.ok):call 8 [.agg x.ll] []=some (.agg x.cnf.l,[]) :=
 uR _ _ _ _ _ _ _ _ _ _ _ _ h.a h.b h.c h.d h.e h.f h.g h.h h.i h.j h.k h.l
theorem Gh {r:Rec} (h:whyF r=0):(0<=r.at_∧r.at_<=1099511627776)∧(0<=r.ti∧r.ti<=1099511627776)∧r.da.length<=64:=by
 unfold whyF at h;split at h
 ·rename_i c;split at h
  ·rename_i c2;have h1:=c.1;have h2:=c.2;unfold ep at h1 h2;simp only[Bool.and_eq_true,decide_eq_true_eq] at h1 h2;exact⟨h1,h2,c2⟩
  ·cases h
 ·cases h
theorem Bn (l:List Rec) (hl:1<=l.length∧l.length<=64) (h:∀ i (hi:i<l.length),whyF l[i]=0∧l[i].at_=frst l+i):call 46 [vl (l.map Rec.enc)] []=some (vb true,[]):=by
 obtain⟨r0,g0⟩:=na hl.1;have h0:=(Gh (h 0 (by omega)).1).1
 rw[(h 0 (by omega)).2] at h0
 apply ae T3 rfl;refine bC ?_ Sb.eq_1 @zM;refine ax (m:=0) (σ:=Nat) (fun i=>l.length-i) (fun i=>i<=l.length) (fun i=>[vl (l.map Rec.enc),vi i]) (fun _=>[]) (fun _=>((vb true,[]):V × Hp)) ?_ 0 (zP _) _ _ bO
 intro i h1 R hR;by_cases c:i<l.length
 ·have hc:(i:Int)<(l.length:Int):=by omega
  have g1:(l.map Rec.enc)[i]?=some l[i].enc:=by rw[zG,zE c];rfl
  obtain⟨hw,ha⟩:=h i c;obtain⟨b1,b2,b3⟩:=Gh hw;have hK:=hR (i+1) (by omega) (by omega)
  clear hR h;generalize l[i]=r at *;obtain⟨a,b,d⟩:=r;simp only[Rec.enc] at g1 ha b1 b2 b3;subst ha;have e1:¬ frst l+(i:Int)<0:=by omega
  have e2:¬ (1099511627776:Int)<frst l+(i:Int):=by omega
  have e3:¬ b<0:=by omega
  have e4:¬ (1099511627776:Int)<b:=by omega
  have e5:¬ (64:Int)<(d.length:Int):=by omega
  refine bC ?_ FW.eq_1 (zT hc) g0 g1 (zF e1) (zF e2) (zF e3) (zF e4) (zF e5) @zM;exact hK _ _ bO
 ·have hc:¬ (i:Int)<(l.length:Int):=by omega
  have hle:(l.length:Int)<=64:=by omega
  clear hR h;refine bC ?_ FW.eq_1 Sb.eq_1 (zF hc) (zT hle) @zM;try simp[trim]
theorem J6 (h:List (List Rec)) (hh:okH h):call 24 [vl (h.map hE)] []=some (vi (bytH h:Nat),[]):=by
 have hb:=oE h hh.all;have hl:=hh.len;apply ae TN rfl;refine bC ?_ a24.eq_1 @zM;refine ax (m:=0) (σ:=Nat × Nat) (fun t=>h.length-t.1) (fun t=>t.1<=h.length∧t.2+bytH (h.drop t.1)=bytH h) (fun t=>[vl (h.map hE),vi t.2,vi t.1]) (fun _=>[]) (fun _=>(vi (bytH h:Nat),[])) ?_ (0,0) ⟨zP _,by simp⟩ _ _ bO
 rintro⟨i,n⟩ ⟨h1,h2⟩ R hR;simp only at h1 h2 ⊢;by_cases c:i<h.length
 ·have hc:(i:Int)<(h.length:Int):=by omega
  have g1:(h.map hE)[i]?=some [.l (h[i].map Rec.enc)]:=by rw[zG,zE c];rfl
  have ho:=hh.all _ (zN c);rw[uV h i c] at h2;have q:=JH h[i] (by have:=ho.len;omega) ho.ok
  have hK:=hR (i+1,n+fu h[i]) (by simp only[];omega) ⟨by simp only[];omega,by simp only[];omega⟩
  clear hR;generalize h[i]=l at *;have e:((n+fu l:Nat):Int)=(n:Int)+(fu l:Nat):=by omega
  simp only[e] at hK;generalize fu l=z at *;refine bC ?_ GF.eq_1 (zT hc) g1 q @zM;exact hK _ _ bO
 ·have hc:¬ (i:Int)<(h.length:Int):=by omega
  rw[zC (by omega)] at h2
  have h3:n=bytH h:=by simpa[bytH] using h2
  rw[h3];refine bC ?_ GF.eq_1 a24.eq_1 (zF hc) @zM;try simp[trim]
theorem K1 {all:List Rec} (ha:Lg all) (h:List (List Rec)) (hl:h.length<=1000) (hp:∀ l∈h,pieceL all l) (hs:h.Pairwise fun a b=>frst a<frst b):call 23 [vl (h.map hE)] []=some (vb true,[]):=by
 have hal:=ha.len;apply ae TA rfl;refine bC ?_ RO.eq_1 @zM;refine ax (m:=0) (σ:=Nat) (fun i=>h.length-i) (fun i=>i<=h.length) (fun i=>[vl (h.map hE),vi i]) (fun _=>[]) (fun _=>((vb true,[]):V × Hp)) ?_ 0 (zP _) _ _ bO
 intro i h1 R hR;by_cases c:i<h.length
 ·have hc:(i:Int)<(h.length:Int):=by omega
  have g1:(h.map hE)[i]?=some [.l (h[i].map Rec.enc)]:=by rw[zG,zE c];rfl
  have hk:=hp _ (zN c);have hlen:1<=h[i].length∧h[i].length<=30:=by
   obtain⟨a,k,k1,k2,e⟩:=hk;rw[e,iN k2];omega
  have q:=Bn h[i] (by omega) (fun j hj=>by
   obtain⟨a,k,k1,k2,e⟩:=hk;have hf:=kN ha k1 k2;rw[<- e] at hf;have hlj:h[i].length=k:=by rw[e];exact iN k2
   have hg:h[i][j]=all[a+j]'(by omega):=by
    simp only[e,List.getElem_take,List.getElem_drop]
   rw[hg,hf];have:=ha.num (a+j) (by omega)
   exact⟨ha.why _ (zN _),by rw[this];omega⟩)
  obtain⟨r0,g0⟩:=na hlen.1;have hz:¬ ((h[i].length:Nat):Int)=0:=by omega
  have hK:=hR (i+1) (by omega) (by omega)
  clear hR;by_cases ci:i=0
  ·subst ci;clear hk hp hs;generalize h[0]=l at *;refine bC ?_ Cd.eq_1 (zT hc) g1 g0 q (eq_false hz) @zM;exact hK _ _ bO
  ·have hp0:(0:Int)<(i:Int):=by omega
   have hi1:i-1<h.length:=by omega
   have g2:(h.map hE)[i-1]?=some [.l (h[i-1].map Rec.enc)]:=by rw[zG,zE hi1];rfl
   have hlen2:1<=h[i-1].length:=by
    obtain⟨a,k,k1,k2,e⟩:=hp _ (zN hi1);rw[e,iN k2];exact k1
   obtain⟨r1,g3⟩:=na hlen2;have hlt:frst h[i-1]<frst h[i]:=List.pairwise_iff_getElem.1 hs _ _ _ _ (by omega)
   have hle:¬ frst h[i]<=frst h[i-1]:=by omega
   have ei:((i:Int)-1)=((i-1:Nat):Int):=by omega
   clear hk hp hs hlt;generalize h[i]=l at *;generalize h[i-1]=l2 at *;refine bC ?_ Cd.eq_1 (zT hc) (zT hp0) g1 g0 q (eq_false hz) ei g2 g3 (zF hle) @zM;exact hK _ _ bO
 ·have hc:¬ (i:Int)<(h.length:Int):=by omega
  clear hR;refine bC ?_ Cd.eq_1 RO.eq_1 (zF hc) @zM;try simp[trim]
theorem My {f g:Fw} (h:f.sto.next<g.sto.next):sx f g=true:=by
 unfold sx;have:g.sto.next≠f.sto.next:=by omega
 simp[this]
theorem UL (a b:Int) (d:Txt):jK [0,0,2] [L.d (D.i .i64 a),L.d (D.i .i64 b),L.d (D.s d)] [L.d (D.i .i64 a),L.d (D.i .i64 b),L.d (D.s d)]=some true:=by
 simp[jK,tQ]
theorem P5 (x:Kn) (hx:x.ok) (data:List Txt) (hd:data.length<=9223372036854775807) (hds:∀ d∈data,d.length<=9223372036854775807) (l:List Ak) (hl:l.length<=9223372036854775807) (ho:∀ x∈l,x.ok) :
  call 5 [.agg (Ix x data l)] []=some (vb true,[]):=by
 obtain⟨b,q1,hb⟩:=A1 data hd hds l hl ho;have q2:=wM;unfold Ix;apply ae s5 rfl;cases b with
 | false =>
  refine bC ?_ a5.eq_1 q1 q2;try simp[trim]
 | true =>
  obtain⟨h1,h2,h3⟩:=hb rfl;have q3:=Jm x hx;have q4:=n5 data (by omega)
  have q5:=Ce;have q6:=tE 1 3 (aG d0).1 x.cnf;obtain⟨ha,ht⟩:=xH data h1 h3;have hdl:∀ r∈bG data,r.da.length<=64:=fun r hr=>(Gh (ha.why r hr)).2.2
  have hc:CI x.cnf:=Ct _ _ _ _ _ _ _ _ _ _ _ _ hx.f;have hf:=yA hc (all:=bG data);have hal:=ha.len;generalize bG data=all at *;generalize x.cnf=c at *;generalize pP 1 3 (aG d0).1 c=f0 at *;generalize (aG d0).1=st at *;simp only[Kn.ll,Cnf.l,Fw.l,dG,Sto.l,Dsk.l,d0,List.map_nil,List.cons_append,List.nil_append] at q3 q5 q6;refine bC ?_ a5.eq_1 q1 q3 q4 q5 q6 @zM;refine ax (m:=0) (σ:=Nat × Nat × Fw) (fun t=>l.length-t.1) (fun t=>t.1<=l.length∧FI true 70 300000 all c (1+32*(t.1:Nat)) t.2.1 t.2.2) (fun t=>[V.one (.p 0 0),V.one (.p 1 0),vl (all.map Rec.enc),V.one (.p 2 0),vi t.1])
   (fun t=>[.cells [zU (x.a:Nat),zU (x.b:Nat),zU (x.c:Nat),zU (x.d:Nat),zU (x.e:Nat),zU (x.f:Nat),zU (x.g:Nat),zU (x.h:Nat),zU (x.i:Nat),zU (x.j:Nat),zU (x.k:Nat),zU (x.l:Nat),.d (.l (data.map eX)),.d (.l (l.map Ak.enc))],.cells c.l,.cells (Fw.l t.2.2)]) (fun _=>((vb true,[]):V × Hp)) ?_ (0,0,f0) ⟨zP _,hf.v_up (by simp only[];omega)⟩ _ _ ?_
  rotate_left
  ·exact bO
  clear q3 q5 q6 hf;rintro⟨i,n,f⟩ ⟨h4,hh⟩ R hR;simp only[Fw.l,Cnf.l] at h4 hh ⊢;by_cases ci:i<l.length
  ·have hci:(i:Int)<(l.length:Int):=by omega
   have g1:(l.map Ak.enc)[i]?=some l[i].enc:=by rw[zG,zE ci];rfl
   have hy:=ho _ (zN ci);have hR2:=fun n g hg=>hR (i+1,n,g) (by simp only[];omega) ⟨by simp only[];omega,hg⟩
   clear hR;generalize l[i]=y at *;have r6:((y.kd:Nat):Int).tmod 6=((y.kd % 6:Nat):Int):=gw y.kd 6 (by decide)
   simp only[Ak.enc] at g1;have hsq:0<=f.sq∧f.sq<=1000000:=by have:=hh.sq;omega
   by_cases c3:2<y.kd % 6
   ·have c3':(2:Int)<((y.kd % 6:Nat):Int):=by omega
    have hK:=hR2 n f (hh.v_up (by simp only[];omega))
    clear hR2;simp only[Fw.l,Cnf.l] at hK;refine dm ?_ E6.eq_1 (zT hci) g1 r6 (zT c3') @zM;exact hK _ _ bO
   ·have c3':¬ (2:Int)<((y.kd % 6:Nat):Int):=by omega
    by_cases c2:y.kd % 6=2
    ·have c2':((y.kd % 6:Nat):Int)=2:=by omega
     have hwa:=hh.wa;have hbe:=hc.beat;have q8:=Dp f c (hh.hd.ok ha ht hc.held.2) hsq (by omega) hc.win.1
     have e1:¬ c.window-((bytH f.hd:Nat):Int)<c.batch:=by have:=hh.hd.byt;omega
     have e2:¬ c.retry<(oL f c).wa:=by have:=(hh.turn hc).wa;omega
     have hK:=hR2 n _ ((hh.turn hc).v_up (by simp only[];omega))
     clear hR2 hh;have e3:(oL f c).l=[zI f.id_,zI f.ic,.d (.l (f.sto.disk.files.map Fil.enc)),zI f.sto.disk.cap,zB f.sto.disk.armed,zI f.sto.disk.left,zB f.sto.disk.down,zI f.sto.ver,.d (.l (f.sto.segs.map Seg.enc)),zI f.sto.next,zI f.sto.sure,zI f.sto.size,zW f.sto.sum,zI (f.sq+1),.d (.i .i64 (oL f c).wa),.d (.l (f.hd.map hE)),zI f.bo.at_,zI f.bo.sz,zW f.bo.su,zS f.bo.got,zI f.hi]:=rfl;simp only[Fw.l,Cnf.l] at hK;simp only[e3] at q8;simp only[GA,Fw.l,Cnf.l,Mg.l,List.map_nil] at q8;generalize bytH f.hd=bh at *;refine dm ?_ E6.eq_1 (zT hci) g1 r6 (zF c3') (eq_true c2') q8 (zF e1) (zF e2) @zM;exact hK _ _ bO
    ·have c2':¬ ((y.kd % 6:Nat):Int)=2:=by omega
     have g2:=iA all hdl (by omega) y.kd y.a y.i y.n hy.kd hy.a hy.i hy.n y.m
     have hnx:=hh.st.next;obtain⟨q8,n',hn',⟨ee,f1,_⟩|⟨_,h,_⟩⟩:=hh.hear ha ht hc y.kd y.a y.i y.n hy.n;rotate_left
     ·cases h
     have hnx2:=f1.st.next;have hle2:=f1.st.le;have hsl:=f1.st.len ha;have hK:=hR2 n' _ ((f1.few ha (by omega)).v_up (by simp only[];omega))
     clear hR2 f1 hh;generalize kj all y.kd y.a y.i y.n=m at *;generalize dA f c m=G at *;obtain⟨g,e⟩:=G;simp only at hK hnx2 ee hsl;subst ee;have e1:¬ g.sto.next<f.sto.next:=by omega
     have e2:¬ (all.length:Int)<g.sto.next:=by omega
     have e4:¬ ((g.sto.segs.length:Nat):Int)=0:=by omega
     by_cases e3:f.sto.next<g.sto.next
     ·have hp:=My e3;simp only[Jt,qE,hp,Fw.l,Cnf.l,Mg.l] at g2 q8 hK;refine dm ?_ E6.eq_1 (zT hci) g1 r6 (zF c3') (eq_false c2') g2 q8 (zF e1) (zF e2) (zT e3) (And.intro (eq_false e4) @zM);exact hK _ _ bO
     ·simp only[Jt,qE,Fw.l,Cnf.l,Mg.l] at g2 q8 hK;refine dm ?_ E6.eq_1 (zT hci) g1 r6 (zF c3') (eq_false c2') g2 q8 (zF e1) (zF e2) (zF e3) (And.intro (eq_false e4) @zM);exact hK _ _ bO
  ·have hci:¬ (i:Int)<(l.length:Int):=by omega
   clear hR;have p1:=lP f.sto;have p2:=uD f.sto hh.st.ok (by decide) (by decide)
   have hnx:=hh.st.next;have hle:=hh.st.le;have hsu:=hh.sure;have hho:=hh.hd.ok ha ht hc.held.2;have p3:=K1 ha f.hd hho.len hh.hd.pc hh.hd.srt;have p4:=J6 f.hd hho;have e1:=hh.hd.cnt;have e2:=hh.hd.byt;obtain⟨lo,S,hlo,hw⟩:=hh.st.wr;have hfl:=hw.floor;rw[hfl] at p1;have p5:=Bw f.sto hh.st.ok (by decide) (by decide) f.sto.next (by omega)
   have hst:bB f.sto f.sto.next=staA all n:=by
    rw[hnx,hw.stT hh.st.ok n (by omega),Cc all lo n n (by omega) (Int.le_refl _)];rfl
   rw[hst] at p5;have hsta:=ha.sta n;have p6:=se [] List.Pairwise.nil (fun p hp=>by cases hp) (all.take n) (by rw[zQ];omega) (fun r hr=>hdl r (zZ hr))
   have hfo:cL [] (all.take n)=staA all n:=rfl;rw[hfo] at p6;have p7:=Ay (staA all n) (by omega)
   have hrg:∀ j,lo+j<n->∃ h:lo+j<all.length,lG f.sto ((lo:Int)+j)=.tup [(true,all[lo+j].enc.map .d),(false,[zI 0])]:=fun j hj=>by
    have hjl:lo+j<all.length:=by omega
    refine⟨hjl,?_⟩;rw[hw.rget hh.st.ok j (by rw[zH,zQ];omega)]
    rw[List.getElem_drop,List.getElem_take]
   have htk:List.take f.sto.next.toNat (all.map Rec.enc)=(all.take n).map Rec.enc:=by rw[hnx,Int.toNat_natCast,List.map_take]
   have hnb:0<=f.sto.next∧f.sto.next<=(all.length:Int):=by omega
   have hokr:aQ 3 (all.map Rec.enc)=true:=aV Rec.len _;have hsr:f.sto.sure=f.sto.next:=by omega
   have hwb:(0<=c.window∧c.window<=1000000)∧(0<=c.batch∧c.batch<=1000000):=hc.win;clear hh hw hst hfo hsta;generalize staA all n=q at *;have hcell:∀ s:Sto,s.l=[.d (.l (s.disk.files.map Fil.enc)),zI s.disk.cap,zB s.disk.armed,zI s.disk.left,zB s.disk.down,zI s.ver,.d (.l (s.segs.map Seg.enc)),zI s.next,zI s.sure,zI s.size,zW s.sum]:=fun _=>rfl
   simp only[hcell,List.map_nil] at p1 p2 p5 p6;refine bC ?_ E6.eq_1 a5.eq_1 (zF hci) p1 @zM;refine ax (m:=0) (σ:=Nat) (fun j=>n-(lo+j)) (fun j=>lo+j<=n) (fun j=>[V.one (.p 0 0),vl (all.map Rec.enc),V.one (.p 1 0),vi ((lo:Int)+j)])
    (fun _=>[.cells c.l,.cells (Fw.l f)]) (fun _=>((vb true,[]):V × Hp)) ?_ 0 (by omega) _ _ ?_
   rotate_left
   ·simp only[Int.ofNat_zero,Int.add_zero];exact bO
   intro j hj R hR;simp only[Fw.l,Cnf.l] at hR ⊢;by_cases cj:lo+j<n
   ·have hcj:(lo:Int)+(j:Int)<f.sto.next:=by omega
    obtain⟨hjl,e3⟩:=hrg j cj;have p8:=p2 ((lo:Int)+j);rw[e3] at p8;have ej:((lo:Int)+(j:Int))=((lo+j:Nat):Int):=by omega
    have g1:(all.map Rec.enc)[lo+j]?=some all[lo+j].enc:=by rw[zG,zE hjl];rfl
    have hK:=hR (j+1) (by omega) (by omega)
    have ej2:((lo:Int)+((j+1:Nat):Int))=((lo+j:Nat):Int)+1:=by omega
    rw[ej2] at hK;rw[ej] at p8 hcj ⊢;clear hR p2 hrg;generalize lo+j=w at *;generalize all[w]=r at *;obtain⟨ra,rb,rd⟩:=r;simp only[Rec.enc,List.map_cons,List.map_nil] at p8 g1;refine bC ?_ Kq.eq_1 (zT hcj) p8 g1 @UL @zM;exact hK _ _ bO
   ·have hcj:¬ (lo:Int)+(j:Int)<f.sto.next:=by omega
    clear hR p2 hrg;refine bC ?_ Kq.eq_1 a5.eq_1 (zF hcj) q2 p3 p4 p5 p6 p7 (eq_true hsr) htk (And.intro hokr (And.intro (zT e1) (And.intro (zT e2) @zM)));try simp[trim]
theorem iy {n:Int} (h1:IntKind.u8.min<=n) (h2:n<=IntKind.u8.max):∃ j:Nat,n=j∧j<256:=by
 have a1:(0:Int)<=n:=h1;have a2:n<=255:=h2;exact⟨n.toNat,by omega,by omega⟩
abbrev RW:List Ty:=[.i .u8,.i .u8,.i .u8,.i .u8,.i .i64,.i .i64,.i .i64,.i .i64,.i .i64,.i .i64,.i .i64,.i .i64,.i .i64,.i .i64,.i .i64,.i .i64,.i .u32,.s,.l [.i .i64,.i .i64,.s]]
theorem Ak.of (r:List D) (h:dg RW r):∃ x:Ak,r=x.enc∧x.ok:=by
 simp only[dg,IJ] at h;obtain⟨_,_,rfl,⟨a,rfl,a1,a2⟩,_,_,rfl,⟨b,rfl,b1,b2⟩,_,_,rfl,⟨c,rfl,c1,c2⟩,_,_,rfl,⟨d,rfl,d1,d2⟩,_,_,rfl,⟨e0,rfl,_⟩,_,_,rfl,⟨e1,rfl,_⟩,_,_,rfl,⟨e2,rfl,_⟩,_,_,rfl,⟨e3,rfl,_⟩,
  _,_,rfl,⟨e4,rfl,_⟩,_,_,rfl,⟨e5,rfl,_⟩,_,_,rfl,⟨e6,rfl,_⟩,_,_,rfl,⟨e7,rfl,_⟩,_,_,rfl,⟨e8,rfl,_⟩,_,_,rfl,⟨e9,rfl,_⟩,_,_,rfl,⟨e10,rfl,_⟩,_,_,rfl,⟨e11,rfl,_⟩,_,_,rfl,⟨su,rfl,_⟩,_,_,rfl,⟨da,rfl,_⟩,_,_,rfl,⟨rows,rfl,hl,hr⟩,rfl⟩:=h
 obtain⟨rs,rfl,hrs⟩:=ot Rec.of rows hr;obtain⟨a',rfl,ha⟩:=iy a1 a2;obtain⟨b',rfl,hb⟩:=iy b1 b2;obtain⟨c',rfl,hc⟩:=iy c1 c2;obtain⟨d',rfl,hd⟩:=iy d1 d2;exact⟨⟨a',b',c',d',⟨e0,e1,e2,e3,e4,e5,e6,e7,e8,e9,e10,e11,su,da,rs⟩⟩,rfl,ha,hb,hc,hd,by simpa using hl,hrs⟩
theorem M4 (r:List D) (h:dg [.s] r):∃ x:Txt,r=eX x∧x.length<=9223372036854775807:=by
 simp only[dg,IJ] at h;obtain⟨_,_,rfl,⟨x,rfl,hx⟩,rfl⟩:=h;exact⟨x,rfl,hx⟩
abbrev Le:List Ty:=[.i .u8,.i .u8,.i .u8,.i .u8,.i .u8,.i .u8,.i .u8,.i .u8,.i .u8,.i .u8,.i .u8,.i .u8,.l [.s],.l RW]
theorem Bh (T:List Ty) (ds:List D) (h:dg [.i .u8,.i .u8,.i .u8,.i .u8,.i .u8,.i .u8,.i .u8,.i .u8,.i .u8,.i .u8,.i .u8,.i .u8,.l [.s],.l T] ds) :
  ∃ (x:Kn) (rows rows2:List (List D)),ds=[.i .u8 (x.a:Nat),.i .u8 (x.b:Nat),.i .u8 (x.c:Nat),.i .u8 (x.d:Nat),.i .u8 (x.e:Nat),.i .u8 (x.f:Nat),.i .u8 (x.g:Nat),.i .u8 (x.h:Nat),.i .u8 (x.i:Nat),.i .u8 (x.j:Nat),.i .u8 (x.k:Nat),.i .u8 (x.l:Nat),.l rows,.l rows2]∧x.ok∧(rows.length<=9223372036854775807∧∀ r∈rows,dg [.s] r)∧(rows2.length<=9223372036854775807∧∀ r∈rows2,dg T r):=by
 simp only[dg,IJ] at h;obtain⟨_,_,rfl,⟨a0,rfl,a1,a2⟩,_,_,rfl,⟨b0,rfl,b1,b2⟩,_,_,rfl,⟨c0,rfl,c1,c2⟩,_,_,rfl,⟨d0,rfl,d1,d2⟩,_,_,rfl,⟨e0,rfl,e1,e2⟩,_,_,rfl,⟨f0,rfl,f1,f2⟩,_,_,rfl,⟨g0,rfl,g1,g2⟩,_,_,rfl,⟨h0,rfl,h1,h2⟩,_,_,rfl,⟨i0,rfl,i1,i2⟩,_,_,rfl,⟨j0,rfl,j1,j2⟩,_,_,rfl,⟨k0,rfl,k1,k2⟩,_,_,rfl,⟨l0,rfl,l1,l2⟩,_,_,rfl,⟨rows,rfl,m1,m2⟩,_,_,rfl,⟨rows2,rfl,n1,n2⟩,rfl⟩:=h;obtain⟨a,rfl,a3⟩:=iy a1 a2;obtain⟨b,rfl,b3⟩:=iy b1 b2;obtain⟨c,rfl,c3⟩:=iy c1 c2;obtain⟨d,rfl,d3⟩:=iy d1 d2;obtain⟨e,rfl,e3⟩:=iy e1 e2;obtain⟨f,rfl,f3⟩:=iy f1 f2;obtain⟨g,rfl,g3⟩:=iy g1 g2;obtain⟨h,rfl,h3⟩:=iy h1 h2;obtain⟨i,rfl,i3⟩:=iy i1 i2;obtain⟨j,rfl,j3⟩:=iy j1 j2;obtain⟨k,rfl,k3⟩:=iy k1 k2;obtain⟨l,rfl,l3⟩:=iy l1 l2;refine⟨⟨a,b,c,d,e,f,g,h,i,j,k,l⟩,rows,rows2,rfl,⟨a3,b3,c3,d3,e3,f3,g3,h3,i3,j3,k3,l3⟩,⟨m1,fun r hr=>?_⟩,n1,n2⟩
 simp only[dg,IJ];exact m2 r hr
theorem DZ (v:V) (h:Px (true,Le) v):∃ (x:Kn) (data:List Txt) (l:List Ak),v=.agg (Ix x data l)∧x.ok∧(data.length<=9223372036854775807∧∀ d∈data,d.length<=9223372036854775807)∧(l.length<=9223372036854775807∧∀ x∈l,x.ok):=by
 obtain⟨ds,rfl,hd⟩:=h;obtain⟨x,rows,rows2,rfl,hx,⟨m1,m2⟩,n1,n2⟩:=Bh RW ds hd;obtain⟨data,rfl,hda⟩:=ot M4 rows m2;obtain⟨l,rfl,hl⟩:=ot Ak.of rows2 n2;exact⟨x,data,l,rfl,hx,⟨by simpa using m1,hda⟩,by simpa using n1,hl⟩
theorem followerLog_pure (xs:List V) (h:Mh [(true,Le)] xs):call 5 xs []=some (vb true,[]):=by
 obtain⟨_,_,rfl,h1,rfl⟩:=h;obtain⟨x,data,l,rfl,hx,hd,hl⟩:=DZ _ h1;exact P5 x hx data hd.1 hd.2 l hl.1 hl.2
end Go.Proofs.YtgoifbjgmgbihaaGreat
