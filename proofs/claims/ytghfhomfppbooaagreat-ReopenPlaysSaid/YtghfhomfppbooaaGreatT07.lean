import Derived.Test.YtghfhomfppbooaaGreatT06
import Derived.Test.YtghfhomfppbooaaGreatVie
set_option linter.unusedSimpArgs false
set_option linter.unusedVariables false
set_option maxRecDepth 20000
set_option maxHeartbeats 16000000
namespace Go.Proofs.YtghfhomfppbooaaGreat
open Go.Vi
def nmL (l:List Fil) (i:Nat):List (List D):=(l.take i).map (fun f=>[D.s f.name])++List.replicate (l.length-i) [D.s []]
theorem HA (l:List Fil) (i:Nat) (h:i<=l.length):(nmL l i).length=l.length:=by simp[nmL];omega
theorem Ga (l:List Fil) (i:Nat) (h:i<l.length):(nmL l i).set i [.s l[i].name]=nmL l (i+1):=by
 unfold nmL;obtain⟨k,hk⟩:∃ k,l.length-i=k+1:=⟨l.length-i-1,by omega⟩
 have hk2:l.length-(i+1)=k:=by omega
 have hl:((l.take i).map (fun f=>[D.s f.name])).length=i:=by simp;omega
 rw[hk,hk2,zO h,List.map_append,List.set_append,if_neg (by omega),hl,Nat.sub_self,List.replicate_succ,List.set_cons_zero,List.append_assoc]
 try rfl
theorem Jw (l:List Fil) (i:Nat) (h:i<l.length):(nmL l i)[i]?=some [D.s []]:=by
 unfold nmL;have hl:((l.take i).map (fun f=>[D.s f.name])).length=i:=by simp;omega
 rw[List.getElem?_append_right (by omega),hl,Nat.sub_self]
 obtain⟨k,hk⟩:∃ k,l.length-i=k+1:=⟨l.length-i-1,by omega⟩
 rw[hk];rfl
theorem o9 (d:Dsk) (hl:d.files.length<=1000000):call 49 [.agg d.l] []=some (vl ((bR d.files).map eT),[]):=by
 have hZ:∃ Z,Z=vl ((bR d.files).map eT):=⟨_,rfl⟩;obtain⟨Z,hZ⟩:=hZ;rw[<- hZ];obtain⟨fl,cp,ar,lf,dn⟩:=d;simp only[Dsk.l] at hl hZ ⊢;have h0:List.replicate fl.length [D.s []]=nmL fl 0:=by simp[nmL]
 apply ah NY rfl;(simp(disch:=first|decide|omega|(intros;exact aj rfl rfl)|simp only[aa]) only[aH,M0,zM,h0,go_sem,seval,ai])
 refine aE (m:=0) (σ:=Nat) (fun i=>fl.length-i) (fun i=>i<=fl.length) (fun i=>[V.one (.sl 0 1 0 fl.length),vl (fl.map Fil.enc),vi fl.length,vi i])
  (fun i=>[.arr 1 (nmL fl i) 0]) (fun _=>(Z,[])) ?_ 0 (zP _) _ _ bv
 intro i h1 R hR;have hln:=HA fl i h1;by_cases hi:i<fl.length
 ·have hc:(i:Int)<(fl.length:Int):=by omega
  have g1:(fl.map Fil.enc)[i]?=some fl[i].enc:=by rw[zG,zE hi];rfl
  have hR':=hR (i+1) (by omega) (by omega)
  rw[<- Ga fl i hi] at hR';generalize fl[i]=f at *;obtain⟨a,b,c⟩:=f;simp only[Fil.enc] at g1 hR';(simp(disch:=first|decide|omega|(intros;exact aj rfl rfl)|simp only[aa]) only[aH,Ed,zT hc,g1,hln,Jw fl i hi,go_sem,seval,ai])
  exact hR' _ _ bv
 ·have hc:¬ (i:Int)<(fl.length:Int):=by omega
  have hil:i=fl.length:=by omega
  subst hil;have htk:List.take fl.length (nmL fl fl.length)=(bR fl).map eT:=by
   rw[zL (by omega)];simp[nmL,bR];intro a _;rfl
  rw[hZ];(simp(disch:=first|decide|omega|(intros;exact aj rfl rfl)|simp only[aa]) only[aH,Ed,M0,zF hc,htk,hln,go_sem,seval,ai])
  try simp[trim]
theorem Bm (l:List Fil) (hl:l.length<=1000000) (hu:usedF l<=1000000000000) (n:Txt) (k:Int):∃ B:Box,(∀ ρ,B.ren ρ=B)∧call 108 [.one (.sl 0 3 0 l.length),vi (aw l n:Nat),vb (bA l n),.one (.p 1 0)] [.arr 3 (l.map Fil.enc) 0,.cells [zI k]]=some (ki (lU l n k).1 (lU l n k).2,[B,.cells [zI k]]):=by
 unfold lU ki;cases c:bA l n with
 | false =>
  refine⟨.arr 3 (l.map Fil.enc) 0,fun _=>rfl,?_⟩
  apply ah Fs rfl;(simp(disch:=first|decide|omega|(intros;exact aj rfl rfl)|simp only[aa]) only[EE,go_sem,seval,ai])
  try simp[zR]
 | true =>
  obtain⟨hp,hnm⟩:=bM c;have hrd:(aB l n).1=l[aw l n].data:=by
   unfold aB;rw[zE hp];simp only[if_pos hnm]
  rw[iz hp,hrd];obtain⟨p,hk⟩:∃ p,p=aw l n:=⟨_,rfl⟩;simp only[<- hk,if_true] at hp hnm ⊢;have hle:=iZ l p hp;have g1:(l.map Fil.enc)[p]?=some l[p].enc:=by simp[hp]
  by_cases c1:k<0
  ·refine⟨.arr 3 (l.map Fil.enc) 0,fun _=>rfl,?_⟩
   apply ah Fs rfl;rw[if_pos (.inl c1)];(simp(disch:=first|decide|omega|(intros;exact aj rfl rfl)|simp only[aa]) only[EE,c1,go_sem,seval,ai])
   try simp[zR]
  ·by_cases c2:((l[p].data.length:Nat):Int)<k
   ·refine⟨.arr 3 (l.map Fil.enc) 0,fun _=>rfl,?_⟩
    apply ah Fs rfl;rw[if_pos (.inr c2)];(simp(disch:=first|decide|omega|(intros;exact aj rfl rfl)|simp only[aa]) only[EE,c1,c2,g1,Fil.len,Fil.at1,Fil.ix1,go_sem,seval,ai])
    try simp[zR]
   ·rw[if_neg (by omega)]
    have hset:(l.map Fil.enc).set p (Fil.enc { l[p] with data:=l[p].data.take k.toNat,sure:=if k<l[p].sure then k else l[p].sure })=(l.set p { l[p] with data:=l[p].data.take k.toNat,sure:=if k<l[p].sure then k else l[p].sure }).map Fil.enc:=by rw[List.map_set]
    refine⟨.arr 3 ((l.set p { l[p] with data:=l[p].data.take k.toNat,sure:=if k<l[p].sure then k else l[p].sure }).map Fil.enc) l.length,fun _=>rfl,?_⟩
    apply ah Fs rfl;have hll:((l.set p { l[p] with data:=l[p].data.take k.toNat,sure:=if k<l[p].sure then k else l[p].sure }).map Fil.enc).length=l.length:=by simp
    have htk:((l.set p { l[p] with data:=l[p].data.take k.toNat,sure:=if k<l[p].sure then k else l[p].sure }).map Fil.enc).take l.length=(l.set p { l[p] with data:=l[p].data.take k.toNat,sure:=if k<l[p].sure then k else l[p].sure }).map Fil.enc:=zL (by simp)
    have c0':(0:Int)<=k:=by omega
    have hlen:(l.map Fil.enc).length=l.length:=by simp
    generalize (l.set p { l[p] with data:=l[p].data.take k.toNat,sure:=if k<l[p].sure then k else l[p].sure }).map Fil.enc=Q at *
    generalize l[p]=f at *;obtain⟨fn,fd,fs⟩:=f;simp only[Fil.enc] at g1 hset c2;have gg:∀ r,(List.set (l.map Fil.enc) p r)[p]?=some r:=fun r=>by rw[List.getElem?_set_self (by simpa using hp)]
    have hss:∀ a b,(List.set (List.set (l.map Fil.enc) p a) p b)=List.set (l.map Fil.enc) p b:=fun a b=>List.set_set _
    (simp(disch:=first|decide|omega|(intros;exact aj rfl rfl)|simp only[aa]) only[aH,EE,c1,c2,g1,gg,hss,hset,hll,htk,hlen,List.length_set,go_sem,seval,ai])
    try simp[zR]
theorem Cr (d:Dsk) (hd:d.ok) (n:Txt) (k:Int):call 58 [.agg d.l,vs n,vi k] []=some (aR (aA d (lU d.files n k)),[]):=by
 apply ah OI rfl;have h0:=uj d hd.len hd.srt hd.left n 108 [zI k] rfl (lU d.files n k).1 (lU d.files n k).2 (fun D R=>by
  obtain⟨B,hB,h⟩:=Bm d.files hd.len hd.used n k;exact⟨B,fun _ _=>aP (ids:=[4,0]) rfl rfl rfl h (by simp[bB,hB,ki,V.ren,L.ren,nZ])⟩)
 have h:∀ D R:Box,az call 86 [.agg d.l,vs n,.one (.f 108 [1])] [D,.cells [zI k],R]=some (aR (aA d (lU d.files n k)),[D,.cells [zI k],R]):=fun D R =>
  aP (ids:=[1]) rfl rfl rfl h0 rfl
 generalize aA d (lU d.files n k)=r at *;obtain⟨⟨f2,cp2,ar2,lf2,dn2⟩,e2⟩:=r;obtain⟨fl,cp,ar,lf,dn⟩:=d;simp only[aR,Dsk.l] at h ⊢;(simp(disch:=first|decide|omega|(intros;exact aj rfl rfl)|simp only[aa]) only[aH,NG,↓h,go_sem,seval,ai])
 try simp[trim]
def Cd (b:Txt) (s:Nat × Bool):List L:=[zS b,zI s.1,zB s.2]
def dx (b:Txt) (s:Nat × Bool):Nat × (Nat × Bool):=if s.2=true then(0,s) else match i7 (b.drop s.1) 0 0 with
 | some (v,j)=>(v,(s.1+j,false))
 | none=>(0,(0,true))
theorem eU (b:Txt) (hb:b.length<=1000000) (s:Nat × Bool) (hs:s.1<=1000000):call 102 [.one (.p 0 0)] [.cells (Cd b s)]=some (vi (dx b s).1,[.cells (Cd b (dx b s).2)]):=by
 obtain⟨a,e⟩:=s;unfold dx Cd;simp only at hs ⊢;apply ah Mx rfl;cases e with
 | true =>
  (simp(disch:=first|decide|omega|(intros;exact aj rfl rfl)|simp only[aa]) only[aH,Gj,go_sem,seval,ai])
  try simp[zR]
 | false =>
  have q:=oI b a (by omega) (by omega)
  cases hr:i7 (b.drop a) 0 0 with
  | none =>
   rw[hr] at q;simp only[iE] at q;(simp(disch:=first|decide|omega|(intros;exact aj rfl rfl)|simp only[aa]) only[aH,Gj,q,go_sem,seval,ai])
   try simp[zR]
  | some r =>
   obtain⟨v,j⟩:=r;rw[hr] at q;simp only[iE] at q;(simp(disch:=first|decide|omega|(intros;exact aj rfl rfl)|simp only[aa]) only[aH,Gj,q,go_sem,seval,ai])
   try simp[zR]
theorem ko (b:Txt) (s:Nat × Bool) (h:s.1<=b.length):(dx b s).2.1<=b.length∧(dx b s).1<9223372036854775808:=by
 unfold dx;split
 ·exact⟨h,by simp⟩
 ·cases hr:i7 (b.drop s.1) 0 0 with
  | none=>exact⟨by simp,by simp⟩
  | some r =>
   obtain⟨v,j⟩:=r;have:=(dA hr).2.1;rw[zH] at this;exact⟨by simp only[];omega,tG hr⟩
def rG (b:Txt) (s:Nat × Bool):Int × (Nat × Bool):=if s.2=true∨((b.length:Nat):Int)-(s.1:Nat)≠4 then(0,(s.1,true)) else(lS (b.drop s.1),s)
theorem MY (a b n:Nat) (ha:a<2 ^ n) (hb:b*2 ^ n+a<4294967296):b6 .or (.i .u32 ((a:Nat):Int)) (.i .u32 ((b*2 ^ n:Nat):Int))=some (.i .u32 ((a+b*2 ^ n:Nat):Int)):=by
 simp only[b6,ne_eq,not_true_eq_false,if_false];have h1:∀ x:Nat,x<4294967296->BitVec.ofInt 32 ((x:Nat):Int)=BitVec.ofNat 32 x:=by
  intro x hx;apply BitVec.eq_of_toNat_eq;simp
 rw[show IntKind.u32.bits=32 from rfl,h1 _ (by omega),h1 _ (by omega)]
 have h2:(BitVec.ofNat 32 a ||| BitVec.ofNat 32 (b*2 ^ n)).toNat=a+b*2 ^ n:=by
  rw[BitVec.toNat_or,BitVec.toNat_ofNat,BitVec.toNat_ofNat,Nat.mod_eq_of_lt (by omega),Nat.mod_eq_of_lt (by omega),Nat.or_comm,<- Nat.shiftLeft_eq,<- Nat.shiftLeft_add_eq_or_of_lt ha,Nat.add_comm]
 rw[h2,kC (by omega)]
theorem Li (c i:Nat) (hc:c<256) (hi:i<=3):b6 .shl (.i .u32 ((c:Nat):Int)) (.i .u64 (8*((i:Nat):Int)))=some (.i .u32 ((c*2 ^ (8*i):Nat):Int))∧c*2 ^ (8*i)+2 ^ (8*i)<=4294967296:=by
 have h2:2 ^ (8*i)<=2 ^ 24:=Nat.pow_le_pow_right (by decide) (by omega)
 have h3:(c+1)*2 ^ (8*i)<=256*2 ^ 24:=Nat.mul_le_mul (by omega) h2
 have h4:(256:Nat)*2 ^ 24=4294967296:=by decide
 have h5:(c+1)*2 ^ (8*i)=c*2 ^ (8*i)+2 ^ (8*i):=by rw[Nat.add_mul,Nat.one_mul]
 refine⟨?_,by omega⟩
 have hp:0<2 ^ (8*i):=Nat.pow_pos (by decide)
 simp only[b6];rw[if_neg (by omega)]
 have e1:(8*((i:Nat):Int)).toNat=8*i:=by omega
 have e2:min (8*i) IntKind.u32.bits=8*i:=Nat.min_eq_left (by show 8*i<=32;omega)
 rw[e1,e2];have e3:((c:Nat):Int)*2 ^ (8*i)=((c*2 ^ (8*i):Nat):Int):=by simp
 rw[e3,kC (by omega)]
def qj (l:Txt) (i:Nat):Nat:=(List.range i).foldl (fun n j=>n+(l.getD j 0).toNat*2 ^ (8*j)) 0
theorem oi (l:Txt) (i:Nat):qj l (i+1)=qj l i+(l.getD i 0).toNat*2 ^ (8*i):=by
 unfold qj;rw[List.range_succ,List.foldl_append];rfl
theorem Ao (l:Txt):∀ i,qj l i<2 ^ (8*i)
 | 0=>by simp[qj]
 | i+1=>by
  have h:=Ao l i;have h1:=UInt8.toNat_lt (l.getD i 0);rw[oi];have h2:((l.getD i 0).toNat+1)*2 ^ (8*i)<=256*2 ^ (8*i):=Nat.mul_le_mul_right _ (by omega)
  have h3:2 ^ (8*(i+1))=256*2 ^ (8*i):=by rw[Nat.mul_add,Nat.pow_add,Nat.mul_comm]
  rw[Nat.add_mul,Nat.one_mul] at h2;omega
theorem El (l:Txt) (h:l.length=4):lS l=((qj l 4:Nat):Int):=by
 match l,h with
 | [a,b,c,d],_ =>
  simp only[lS,oi];simp[qj];omega
theorem tz (b:Txt) (hb:b.length<=1000000) (s:Nat × Bool) (hs:s.1<=b.length):call 103 [.one (.p 0 0)] [.cells (Cd b s)]=some (vk .u32 (rG b s).1,[.cells (Cd b (rG b s).2)]):=by
 obtain⟨a,e⟩:=s;unfold rG Cd;simp only at hs ⊢;apply ah Mr rfl;cases e with
 | true =>
  rw[if_pos (.inl rfl)];(simp(disch:=first|decide|omega|(intros;exact aj rfl rfl)|simp only[aa]) only[aH,Ew,go_sem,seval,ai])
  try simp[zR]
 | false =>
  by_cases c:((b.length:Nat):Int)-(a:Nat)=4
  ·rw[if_neg (by simp[c])]
   have hd:(b.drop a).length=4:=by rw[zH];omega
   rw[El _ hd];obtain⟨Z,hZ⟩:∃ Z:V × Hp,Z=(vk .u32 ((qj (b.drop a) 4:Nat):Int),[.cells [zS b,zI a,zB false]]):=⟨_,rfl⟩;simp only;rw[<- hZ];(simp(disch:=first|decide|omega|(intros;exact aj rfl rfl)|simp only[aa]) only[aH,Ew,eq_true c,go_sem,seval,ai])
   refine aE (m:=1) (σ:=Nat) (fun i=>4-i) (fun i=>i<=4) (fun i=>[V.one (.p 0 0),vk .u32 ((qj (b.drop a) i:Nat):Int),vi i])
    (fun _=>[.cells [zS b,zI a,zB false]]) (fun _=>Z) ?_ 0 (by decide) _ _ bv
   intro i h1 R hR;by_cases ci:i<4
   ·have hc:(i:Int)<4:=by omega
    have hbi:a+i<b.length:=by omega
    have g:b[a+i]?=some b[a+i]:=zE hbi;have hg:(b.drop a).getD i 0=b[a+i]:=by rw[List.getD_eq_getElem?_getD,List.getElem?_drop,g];rfl
    have hei:((a:Int)+(i:Int)).toNat=a+i:=by omega
    have hR':=hR (i+1) (by omega) (by omega)
    rw[oi,hg] at hR';have hlt:=Ao (b.drop a) i;have hb8:=UInt8.toNat_lt b[a+i];obtain⟨s1,s2⟩:=Li b[a+i].toNat i (by omega) (by omega)
    have s3:=MY (qj (b.drop a) i) b[a+i].toNat (8*i) hlt (by omega)
    generalize b[a+i]=x at *;generalize qj (b.drop a) i=w at *;(simp(disch:=first|decide|omega|(intros;exact aj rfl rfl)|simp only[aa]) only[aH,xG,zT hc,hei,g,↓s1,↓s3,go_sem,seval,ai])
    exact hR' _ _ bv
   ·have e4:i=4:=by omega
    subst e4;have hc:¬ ((4:Nat):Int)<4:=by omega
    rw[hZ];(simp(disch:=first|decide|omega|(intros;exact aj rfl rfl)|simp only[aa]) only[aH,xG,Ew,zF hc,go_sem,seval,ai])
    try simp[zR]
  ·rw[if_pos (.inr c)];(simp(disch:=first|decide|omega|(intros;exact aj rfl rfl)|simp only[aa]) only[aH,Ew,eq_false c,go_sem,seval,ai])
   try simp[zR]
def bZ (b:Txt):Nat->Nat × Bool->List Int × (Nat × Bool)
 | 0,s=>([],s)
 | k+1,s=>(((dx b s).1:Int)::(bZ b k (dx b s).2).1,(bZ b k (dx b s).2).2)
def qM (b:Txt) (bad:Bool):Option Man :=
 let r1:=dx b (0,bad)
 let r2:=dx b r1.2
 if 64<r2.1 then none else
  let r3:=bZ b r2.1 r2.2
  let r4:=dx b r3.2
  let r5:=rG b r4.2
  if(!r5.2.2 && manB ⟨r1.1,r3.1,r4.1,r5.1⟩)=true then some ⟨r1.1,r3.1,r4.1,r5.1⟩ else none
theorem lJ {b:Txt} {s:Nat × Bool} (h:(dx b s).2.2=false):s.2=false∧b.drop s.1=au (dx b s).1++b.drop (dx b s).2.1:=by
 unfold dx at h ⊢;by_cases c:s.2=true
 ·rw[if_pos c] at h;rw[c] at h;cases h
 ·rw[if_neg c] at h ⊢;cases hr:i7 (b.drop s.1) 0 0 with
  | none=>rw[hr] at h;cases h
  | some r =>
   obtain⟨v,j⟩:=r;obtain⟨_,_,_,h4⟩:=dA hr;refine⟨by simpa using c,?_⟩
   simp only;rw[<- h4,<- List.drop_drop,zY]
theorem qN {b:Txt}:∀ (k:Nat) (s:Nat × Bool),(bZ b k s).2.2=false->s.2=false∧(bZ b k s).1.length=k∧b.drop s.1=aN (bZ b k s).1++b.drop (bZ b k s).2.1
 | 0,s,h=>⟨h,rfl,by simp[bZ,aN]⟩
 | k+1,s,h=>by
  obtain⟨h1,h2,h3⟩:=qN k (dx b s).2 h;obtain⟨h4,h5⟩:=lJ h1;refine⟨h4,by simp[bZ,h2],?_⟩
  simp only[bZ];rw[h5,h3,mJ];simp
theorem oy {b:Txt} {s:Nat × Bool} (h:(rG b s).2.2=false):s.2=false∧(b.drop s.1).length=4∧(rG b s).1=lS (b.drop s.1):=by
 unfold rG at h ⊢;split at h
 ·cases h
 ·rename_i c;simp only[not_or,ne_eq,Decidable.not_not] at c;rw[if_neg (by simp[c])]
  exact⟨by simpa using c.1,by rw[zH];omega,rfl⟩
theorem n6 {l:Txt} (h:l.length=4):co (BitVec.ofNat 32 (lS l).toNat)=l∧0<=lS l∧lS l<4294967296:=by
 match l,h with
 | [a,b,c,d],_ =>
  have ha:=UInt8.toNat_lt a;have hb:=UInt8.toNat_lt b;have hc:=UInt8.toNat_lt c;have hd:=UInt8.toNat_lt d;obtain⟨n,hn⟩:∃ n:Nat,n=a.toNat+256*(b.toNat+256*(c.toNat+256*d.toNat)):=⟨_,rfl⟩;have e:lS [a,b,c,d]=((n:Nat):Int):=by simp only[lS];rw[hn]
  rw[e];refine⟨?_,by omega,by omega⟩
  rw[Int.toNat_natCast];have hx:(BitVec.ofNat 32 n).toNat=n:=by rw[BitVec.toNat_ofNat];omega
  have e0:co (BitVec.ofNat 32 n)=[UInt8.ofNat (BitVec.ofNat 32 n).toNat,UInt8.ofNat (BitVec.ofNat 32 n >>> 8).toNat,UInt8.ofNat (BitVec.ofNat 32 n >>> 16).toNat,UInt8.ofNat (BitVec.ofNat 32 n >>> 24).toNat]:=rfl;rw[e0,BitVec.toNat_ushiftRight,BitVec.toNat_ushiftRight,BitVec.toNat_ushiftRight,hx,Nat.shiftRight_eq_div_pow,Nat.shiftRight_eq_div_pow,Nat.shiftRight_eq_div_pow];have f:∀ (x:UInt8) (k:Nat),k % 256=x.toNat->UInt8.ofNat k=x:=fun x k hk=>by
   apply UInt8.toNat_inj.1;rw[UInt8.toNat_ofNat'];exact hk
  rw[f a _ (by omega),f b _ (by omega),f c _ (by omega),f d _ (by omega)]
theorem BL {s t:Txt} (h:bY s 0=(t,s.length,0)):s=bN t:=by
 unfold bY at h;split at h
 ·simp at h
 ·split at h
  ·simp at h
  ·rename_i m k hr;obtain⟨q1,q2,q3,_⟩:=fZ hr;split at h
   ·simp at h
   ·split at h
    ·simp at h
    ·rename_i hl;split at h
     ·rename_i hf;simp only[Prod.mk.injEq,Nat.zero_add,List.drop_zero] at h q1 hf;obtain⟨h1,h2,_⟩:=h;have hst:s.take (k+4+m)=s:=zL (by omega)
      rw[hst] at h1 hf;have htl:t.length=m:=by rw[<- h1,zH];omega
      unfold bN;rw[htl];have:s=s.take k++((s.take (k+4)).drop k++s.drop (k+4)):=by
       rw[List.drop_take];have e:(s.drop k).take (k+4-k)++s.drop (k+4)=s.drop k:=by
        rw[show k+4-k=4 by omega,<- List.drop_drop,zY]
       rw[e,zY]
      rw[h1] at this hf;conv=>lhs;rw[this]
      rw[q1,<- hf];simp
     ·simp at h
theorem EA {s:Txt} {m:Man} (h:bG s=some m):m.ok:=by
 have h1:=d5 (bJ h).1;refine⟨by omega,?_⟩
 unfold bG at h;split at h
 ·cases h;unfold tq;have f:∀ l:Txt,0<=lS l∧lS l<4294967296:=by
   intro l;by_cases hl:l.length=4
   ·exact(n6 hl).2
   ·have:lS l=0:=by
     match l,hl with
     | [],_=>rfl
     | [_],_=>rfl
     | [_,_],_=>rfl
     | [_,_,_],_=>rfl
     | [_,_,_,_],h=>exact absurd rfl h
     | _::_::_::_::_::_,_=>rfl
    omega
  split
  ·split
   ·exact f _
   ·simp
  ·simp
 ·cases h
theorem AV {b:Txt} {m:Man} (h:qM b false=some m):manB m=true∧aU m=b:=by
 unfold qM at h;simp only at h;split at h
 ·cases h
 ·split at h
  ·rename_i hc;simp only[Bool.and_eq_true,Bool.not_eq_true'] at hc;cases h;refine⟨hc.2,?_⟩;obtain⟨g1,g2,g3⟩:=oy hc.1;obtain⟨f1,f2⟩:=lJ g1;obtain⟨e1,e2,e3⟩:=qN _ _ f1;obtain⟨d1,d2⟩:=lJ e1;obtain⟨_,c2⟩:=lJ d1;unfold aU eY;simp only[g3];rw[(n6 g2).1];rw[List.drop_zero] at c2;conv=>rhs;rw[c2,d2,e3,f2]
   simp only[List.cons_append,mJ,gQ,e2,Int.toNat_natCast];simp[aN]
  ·cases h
theorem nU {m:Man} (h:manB m=true) (j:Nat) (hj:j<(bn m).length):dx (aU m) ((aN ((bn m).take j)).length,false)=((bn m)[j].toNat,((aN ((bn m).take (j+1))).length,false)):=by
 obtain⟨h1,h2⟩:=qp h j hj;unfold dx;rw[if_neg (by simp),h1,h2]
theorem tn {m:Man} (h:manB m=true):∀ (k j:Nat),j+k<=(bn m).length->bZ (aU m) k ((aN ((bn m).take j)).length,false)=(((bn m).drop j).take k,((aN ((bn m).take (j+k))).length,false))
 | 0,j,_=>by simp[bZ]
 | k+1,j,hj=>by
  have h1:=nU h j (by omega)
  have hin:=uI h _ (zN (show j<(bn m).length by omega))
  simp only[bZ,h1,tn h k (j+1) (by omega)]
  rw[zD (show j<(bn m).length by omega),List.take_succ_cons,show j+(k+1)=j+1+k by omega]
  congr 2
  omega
theorem C8 {m:Man} (h:manB m=true) (hm:m.ok):qM (aU m) false=some m:=by
 have hmt:=d5 h;have hl:=kn m;have n0:=nU h 0 (by omega)
 have n1:=nU h 1 (by omega)
 have n2:=tn h m.segs.length 2 (by omega)
 have n3:=nU h (m.segs.length+2) (by omega)
 have e0:(bn m)[0]'(by omega)=m.ver:=rfl
 have e1:(bn m)[1]'(by omega)=(m.segs.length:Int):=rfl
 have e2:((bn m).drop 2).take m.segs.length=m.segs:=by simp[bn]
 have e3:(bn m)[m.segs.length+2]'(by omega)=m.size:=by
  have:bn m=(m.ver::(m.segs.length:Int)::m.segs)++[m.size]:=rfl;simp[this]
 rw[e0] at n0;rw[e1] at n1;rw[e2] at n2;rw[e3] at n3;simp only[List.take_zero,aN,List.flatMap_nil,List.length_nil,Nat.zero_add,Nat.reduceAdd,Int.toNat_natCast] at n0 n1 n2 n3;rw[Nat.add_comm 2 m.segs.length] at n2;have hall:(bn m).take (m.segs.length+2+1)=bn m:=zL (by omega)
 rw[hall] at n3;have hb:aU m=aN (bn m)++co (eY m):=eR m;have n4:rG (aU m) ((aN (bn m)).length,false)=(m.sum,((aN (bn m)).length,false)):=by
  have hd:(aU m).drop (aN (bn m)).length=co (eY m):=by rw[hb,List.drop_left]
  unfold rG;rw[if_neg (by rw[hb,zA,cH];simp;omega),hd,oj,uH hm]
 unfold qM;simp only[n0,n1];rw[if_neg (by omega)]
 simp only[n2,n3];simp only[aN] at n4;simp only[n4];have v1:((m.ver.toNat:Nat):Int)=m.ver:=by omega
 have v2:((m.size.toNat:Nat):Int)=m.size:=by omega
 rw[v1,v2];exact if_pos (by rw[h];rfl)
theorem wj (b:Txt) (a:Nat):dx b (a,true)=(0,(a,true)):=by unfold dx;rw[if_pos rfl]
theorem C3 (b:Txt):qM b true=none:=by
 unfold qM;simp only[wj];rw[if_neg (by omega)]
 simp only[bZ,wj];rw[if_neg];intro h;simp only[Bool.and_eq_true,Bool.not_eq_true'] at h;have:=oy h.1;cases this.1
def DZ (s:Txt):Option Man:=if(bY s 0).2.2≠0 then none else qM (bY s 0).1 (decide (((bY s 0).2.1:Int)≠(s.length:Nat)))
theorem CB (s:Txt):DZ s=bG s:=by
 cases hd:bG s with
 | some m =>
  obtain⟨h1,h2⟩:=bJ hd;have h3:=qw h1;rw[h2] at h3;unfold DZ;rw[h3];simp only[ne_eq,not_true_eq_false,if_false,decide_false];exact C8 h1 (EA hd)
 | none =>
  cases hg:DZ s with
  | none=>rfl
  | some m =>
   exfalso;unfold DZ at hg;split at hg
   ·cases hg
   ·rename_i he;simp only[ne_eq,Decidable.not_not] at he;by_cases c:(bY s 0).2.1=s.length
    ·have e1:bY s 0=((bY s 0).1,s.length,0):=by rw[<- c,<- he]
     rw[zF (by simp[c])] at hg
     obtain⟨g1,g2⟩:=AV hg;have hs:=BL e1;have:bu m=s:=by unfold bu;rw[g2];exact hs.symm
     have hso:m.ok:=by
      have h1:=d5 g1;refine⟨by omega,?_⟩
      unfold qM at hg;simp only at hg;split at hg
      ·cases hg
      ·split at hg
       ·rename_i hc;simp only[Bool.and_eq_true,Bool.not_eq_true'] at hc;cases hg;obtain⟨_,k2,k3⟩:=oy hc.1;simp only[k3];exact(n6 k2).2
       ·cases hg
     have h4:=nb g1 hso;rw[this,hd] at h4;cases h4
    ·rw[zT (by omega),C3] at hg
     cases hg
theorem qX (b:Txt):∀ (k:Nat) (s:Nat × Bool),bZ b (k+1) s=((bZ b k s).1++[((dx b (bZ b k s).2).1:Int)],(dx b (bZ b k s).2).2)
 | 0,s=>by simp[bZ]
 | k+1,s=>by
  rw[bZ,qX b k (dx b s).2];simp[bZ]
theorem sR (b:Txt):∀ (k:Nat) (s:Nat × Bool),s.1<=b.length->(bZ b k s).2.1<=b.length∧(bZ b k s).1.length=k
 | 0,s,h=>⟨h,rfl⟩
 | k+1,s,h=>by
  have:=sR b k (dx b s).2 (ko b s h).1;exact⟨this.1,by simp[bZ,this.2]⟩
def yx:Option Man->V
 | some m=>kd m
 | none=>dG 3
theorem yI (b:Txt) (hb:b.length<=1000000) (s:Nat × Bool) (hs:s.1<=1000000) (B0 B2:Box):az call 102 [.one (.p 1 0)] [B0,.cells (Cd b s),B2]=some (vi (dx b s).1,[B0,.cells (Cd b (dx b s).2),B2]) :=
 aP (ids:=[1]) rfl rfl rfl (eU b hb s hs) rfl
theorem Cf (s:Txt) (hs:s.length<=1000000):∃ Z,call 55 [vs s] []=some (Z,[])∧(∀ m,bG s=some m->Z=kd m)∧(bG s=none->∃ e,e≠0∧Z=dG e):=by
 have q0:=tK s 0 (by decide) (by omega)
 have z0:((0:Nat):Int)=0:=rfl;rw[z0] at q0;have hbl:=jR s 0;rw[<- CB];unfold DZ;generalize bY s 0=nn at *;obtain⟨b,nx,e⟩:=nn;simp only[cu] at q0 hbl ⊢;by_cases he:e=0
 ·subst he;rw[if_neg (by simp)]
  obtain⟨bad,hbad⟩:∃ bad:Bool,bad=decide ((nx:Int)≠(s.length:Nat)):=⟨_,rfl⟩;rw[<- hbad];have hw:((nx:Int) != ((s.length:Nat):Int))=bad:=by rw[hbad];by_cases c:(nx:Int)=((s.length:Nat):Int) <;> simp[c]
  refine⟨yx (qM b bad),?_,fun m h=>by rw[h];rfl,fun h=>⟨3,by decide,by rw[h];rfl⟩⟩
  generalize hZ:yx (qM b bad)=Z;have l1:=ko b (0,bad) (zP _);have p1:=eU b (by omega) (0,bad) (zP _)
  unfold qM at hZ;simp only at hZ;generalize hr1:dx b (0,bad)=r1 at *;have l2:=ko b r1.2 l1.1;have p2:=yI b (by omega) r1.2 (by omega)
  generalize hr2:dx b r1.2=r2 at *;obtain⟨v,a1,b1⟩:=r1;obtain⟨n,a2,b2⟩:=r2;have p1':∀ B0:Box,az call 102 [.one (.p 1 0)] [B0,.cells [zS b,zI 0,zB bad]]=some (vi v,[B0,.cells [zS b,zI a1,zB b1]]):=fun B0 =>
   aP (ids:=[1]) rfl rfl rfl p1 rfl
  simp only[Cd] at p1' p2 l1 l2 hZ;apply ah Nk rfl;by_cases cn:64<n
  ·have cn':(64:Int)<(n:Int):=by omega
   rw[if_pos cn] at hZ;simp only[yx] at hZ;rw[<- hZ];(simp(disch:=first|decide|omega|(intros;exact aj rfl rfl)|simp only[aa]) only[aH,Hv,q0,hw,p1',p2,zT cn',go_sem,seval,ai])
   try simp[trim,dG,cO]
  ·have cn':¬ (64:Int)<(n:Int):=by omega
   rw[if_neg cn] at hZ;(simp(disch:=first|decide|omega|(intros;exact aj rfl rfl)|simp only[aa]) only[aH,Hv,q0,hw,p1',p2,zF cn',go_sem,seval,ai])
   have hl3:=fun i=>sR b i (a2,b2) l2.1
   refine aE (m:=0) (σ:=Option Nat) (fun t=>match t with|none=>n+1|some i=>n-i) (fun t=>match t with|none=>True|some i=>i+1<=n) (fun t=>match t with|none=>[V.one (.p 0 0),V.one (.p 1 0),V.one (.p 2 0),vi n,vi 0]|some i=>[V.one (.p 0 0),V.one (.p 1 0),V.one (.p 2 0),vi n,vi ((i+1:Nat):Int)])
    (fun t=>match t with|none=>[.cells [zI 0,.ns,zI 0,zW 0],.cells [zS b,zI a2,zB b2],.cells [zI v,.ns,zI 0,zW 0]]|some i=>[.cells [zI 0,.ns,zI 0,zW 0],.cells [zS b,.d (.i .i64 (bZ b (i+1) (a2,b2)).2.1),.d (.b (bZ b (i+1) (a2,b2)).2.2)],.cells [zI v,.sl 3 1 0 (i+1),zI 0,zW 0],.arr 1 ((bZ b (i+1) (a2,b2)).1.map eI) 0]) (fun _=>(Z,[])) ?_ none trivial _ _ ?_
   rotate_left
   ·exact bv
   intro t hi R hR;cases t with
   | none =>
    simp only;by_cases c:0<n
    ·have ci:(0:Int)<(n:Int):=by omega
     have hK:=hR (some 0) (by simp only[];omega) (by simp only[];omega)
     have p3:=eU b (by omega) (a2,b2) (by simp only[];omega)
     simp only[bZ,Cd,List.map_cons,List.map_nil,eI] at p3 hK;generalize dx b (a2,b2)=r at *;obtain⟨w,a3,b3⟩:=r;simp only at p3 hK;have f1:∀ B0 B2:Box,lM call 102 [.one (.p 1 0)] [B0,.cells [zS b,zI a2,zB b2],B2]=some (vi w,[B0,.cells [zS b,zI a3,zB b3],B2]):=fun B0 B2 =>
      Aq (ids:=[1]) rfl rfl rfl (aP (ids:=[0]) rfl rfl rfl p3 rfl) rfl
     clear hR hZ;(simp(disch:=first|decide|omega|(intros;exact aj rfl rfl)|simp only[aa]) only[aH,o6,ci,↓zc,f1,↓pv,Cq,↓n5,yd,go_sem,seval,ai,bg,A.kind,A.xs,aG,A.isN])
     exact hK _ _ bv
    ·have hn0:n=0:=by omega
     subst hn0;clear hR;have l4:=ko b (a2,b2) l2.1;have p4:=eU b (by omega) (a2,b2) (by simp only[];omega)
     simp only[bZ] at hZ;have p5:=tz b (by omega) (dx b (a2,b2)).2 l4.1
     rcases hq:dx b (a2,b2) with⟨w,a3,b3⟩;simp only[hq] at hZ p4 p5 l4;rcases hq2:rG b (a3,b3) with⟨sm,a4,b4⟩;simp only[hq2] at hZ p5;clear hq hq2;have hmr:=jb ⟨v,[],w,sm⟩ (by simp)
     have hmb:manB ⟨v,[],w,sm⟩=false:=by simp[manB]
     rw[hmb] at hZ hmr;rw[if_neg (by simp)] at hZ
     simp only[Cd,Man.l,List.map_nil] at p4 p5 hmr;have f4:∀ B0 B2:Box,az call 102 [.one (.p 1 0)] [B0,.cells [zS b,zI a2,zB b2],B2]=some (vi w,[B0,.cells [zS b,zI a3,zB b3],B2]):=fun B0 B2=>aP (ids:=[1]) rfl rfl rfl p4 rfl
     have f5:∀ B0 B2:Box,az call 103 [.one (.p 1 0)] [B0,.cells [zS b,zI a3,zB b3],B2]=some (vk .u32 sm,[B0,.cells [zS b,zI a4,zB b4],B2]):=fun B0 B2=>aP (ids:=[1]) rfl rfl rfl p5 rfl
     simp only[yx] at hZ;rw[<- hZ];cases b4 with
     | true =>
      (simp(disch:=first|decide|omega|(intros;exact aj rfl rfl)|simp only[aa]) only[aH,o6,Hv,f4,f5,go_sem,seval,ai,bg,A.kind,A.xs,aG,A.isN])
      try simp[trim,dG,cO]
     | false =>
      (simp(disch:=first|decide|omega|(intros;exact aj rfl rfl)|simp only[aa]) only[aH,o6,Hv,f4,f5,hmr,go_sem,seval,ai,bg,A.kind,A.xs,aG,A.isN])
      try simp[trim,dG,cO]
   | some i =>
    simp only;by_cases c:i+1<n
    ·have ci:((i+1:Nat):Int)<(n:Int):=by omega
     have hK:=hR (some (i+1)) (by simp only[];omega) (by simp only[];omega)
     have hl4:=hl3 (i+1);have p3:=eU b (by omega) (bZ b (i+1) (a2,b2)).2 (by omega)
     simp only[qX b (i+1),List.map_append,List.map_cons,List.map_nil] at hK;have hml:((bZ b (i+1) (a2,b2)).1.map eI).length=i+1:=by simp[hl4.2]
     clear hR hZ hl3;generalize (bZ b (i+1) (a2,b2)).1.map eI=Q at *;generalize (bZ b (i+1) (a2,b2)).2=r0 at *;generalize dx b r0=r at *;obtain⟨w,a4,b4⟩:=r;obtain⟨a3,b3⟩:=r0;simp only[Cd,eI] at p3 hK ⊢;have f1:∀ B0 B2 B3:Box,lM call 102 [.one (.p 1 0)] [B0,.cells [zS b,zI a3,zB b3],B2,B3]=some (vi w,[B0,.cells [zS b,zI a4,zB b4],B2,B3]):=fun B0 B2 B3 =>
      Aq (ids:=[1]) rfl rfl rfl (aP (ids:=[0]) rfl rfl rfl p3 rfl) rfl
     (simp(disch:=first|decide|omega|(intros;exact aj rfl rfl)|simp only[aa]) only[aH,o6,ci,↓zc,f1,hml,↓n5,yd,go_sem,seval,ai,bg,A.kind,A.xs,aG,A.isN])
     exact hK _ _ bv
    ·have ci:¬ ((i+1:Nat):Int)<(n:Int):=by omega
     have hin:i+1=n:=by omega
     rw[hin];have hl4:=hl3 n;clear hR hl3 hi c;obtain⟨Q,hQ⟩:∃ Q,Q=bZ b n (a2,b2):=⟨_,rfl⟩;rw[<- hQ] at hZ hl4 ⊢;obtain⟨sg,a3,b3⟩:=Q;simp only at hZ hl4 ⊢;have l4:=ko b (a3,b3) hl4.1;have p4:=eU b (by omega) (a3,b3) (by simp only[];omega)
     have p5:=tz b (by omega) (dx b (a3,b3)).2 l4.1
     rcases hq:dx b (a3,b3) with⟨w,a4,b4⟩;simp only[hq] at hZ p4 p5 l4;rcases hq2:rG b (a4,b4) with⟨sm,a5,b5⟩;simp only[hq2] at hZ p5;clear hq hq2;have hmr:=jb ⟨v,sg,w,sm⟩ (by simp only[];omega)
     simp only[Cd,Man.l] at p4 p5 hmr hZ;have f4:∀ B0 B2 B3:Box,az call 102 [.one (.p 1 0)] [B0,.cells [zS b,zI a3,zB b3],B2,B3]=some (vi w,[B0,.cells [zS b,zI a4,zB b4],B2,B3]):=fun B0 B2 B3=>aP (ids:=[1]) rfl rfl rfl p4 rfl
     have f5:∀ B0 B2 B3:Box,az call 103 [.one (.p 1 0)] [B0,.cells [zS b,zI a4,zB b4],B2,B3]=some (vk .u32 sm,[B0,.cells [zS b,zI a5,zB b5],B2,B3]):=fun B0 B2 B3=>aP (ids:=[1]) rfl rfl rfl p5 rfl
     have hml:(sg.map eI).length=n:=by simp[hl4.2]
     have htk:List.take n (sg.map eI)=sg.map eI:=zL (by omega)
     cases b5 with
     | true =>
      rw[if_neg (by simp)] at hZ
      simp only[yx] at hZ;rw[<- hZ];(simp(disch:=first|decide|omega|(intros;exact aj rfl rfl)|simp only[aa]) only[aH,o6,Hv,ci,f4,f5,go_sem,seval,ai,bg,A.kind,A.xs,aG,A.isN])
      try simp[trim,dG,cO]
     | false =>
      generalize hmbv:manB ⟨v,sg,w,sm⟩=mb at *;cases mb with
      | false =>
       rw[if_neg (by simp)] at hZ
       simp only[yx] at hZ;rw[<- hZ];(simp(disch:=first|decide|omega|(intros;exact aj rfl rfl)|simp only[aa]) only[aH,o6,Hv,ci,f4,f5,hmr,hml,htk,go_sem,seval,ai,bg,A.kind,A.xs,aG,A.isN])
       try simp[trim,dG,cO]
      | true =>
       rw[if_pos (by simp)] at hZ
       simp only[yx] at hZ;rw[<- hZ];(simp(disch:=first|decide|omega|(intros;exact aj rfl rfl)|simp only[aa]) only[aH,o6,Hv,ci,f4,f5,hmr,hml,htk,go_sem,seval,ai,bg,A.kind,A.xs,aG,A.isN])
       try simp[trim,kd,Man.l]
 ·rw[if_pos he];refine⟨dG e,?_,fun m h=>(by cases h),fun _=>⟨e,he,rfl⟩⟩
  apply ah Nk rfl;(simp(disch:=first|decide|omega|(intros;exact aj rfl rfl)|simp only[aa]) only[aH,Hv,q0,he,go_sem,seval,ai])
  try simp[trim,dG,cO]
def cX (d:Dsk) (b:Int):Seg × Int:=(⟨b,(cP (aB d.files (fileN b)).1 b).1.length,(cP (aB d.files (fileN b)).1 b).2.1⟩,(cP (aB d.files (fileN b)).1 b).2.2)
def cU (d:Dsk):List Int->Option (List Seg)
 | []=>some []
 | b::r=>if(aB d.files (fileN b)).2≠0 then none else match r with
  | []=>some [(cX d b).1]
  | c::_=>if(cX d b).2≠0∨b+(cX d b).1.n≠c then none else(cU d r).map ((cX d b).1 :: ·)
def kH (gs:List Seg):Int:=(gs.getLastD ⟨0,0,0⟩).size
def l6:Option (List Seg)->V
 | some gs=>.tup [(false,[.d (.l (gs.map Seg.enc))]),(false,[.d (.i .i64 (kH gs))]),(false,[.d (.b true)])]
 | none=>.tup [(false,[.d (.l [])]),(false,[.d (.i .i64 0)]),(false,[.d (.b false)])]
def ka (d:Dsk) (out:List Seg) (r:List Int):Option (List Seg):=(cU d r).map (out ++ ·)
theorem jY (d:Dsk) (b:Int) (r:List Int):cU d (b::r)=if(aB d.files (fileN b)).2≠0 then none else match r with
  | []=>some [(cX d b).1]
  | c::_=>if(cX d b).2≠0∨b+(cX d b).1.n≠c then none else(cU d r).map ((cX d b).1 :: ·):=by cases r <;> simp only[cU]
theorem yw (l:List Seg) (g:Seg):kH (l++[g])=g.size:=by unfold kH;rw[List.getLastD_concat]
theorem yD {k u:Nat} (d:Dsk) (hd:okN k u d) (hk:k<=900000) (hu:u<=1000000) (m:Man) (hm:m.segs.length<=64) (hb:∀ b∈m.segs,0<=b∧b<=1099511627776):call 32 [.agg d.l,.agg m.l] []=some (l6 (cU d m.segs),[]):=by
 have hrd:=fun n=>fE d (Nat.le_trans hd.len (by omega)) hd.srt n
 obtain⟨Z,hZ⟩:∃ Z,Z=cU d m.segs:=⟨_,rfl⟩;rw[<- hZ];obtain⟨ver,segs,size,sum⟩:=m;simp only at hm hb hZ;have hml:(⟨ver,segs,size,sum⟩:Man).l=[zI ver,.d (.l (segs.map eI)),zI size,zW sum]:=rfl;have hdl:d.l=[.d (.l (d.files.map Fil.enc)),zI d.cap,zB d.armed,zI d.left,zB d.down]:=rfl;rw[hml,hdl];rw[hdl] at hrd;have hlm:(segs.map eI).length=segs.length:=by simp
 apply ah Oo rfl;(simp(disch:=first|decide|omega|(intros;exact aj rfl rfl)|simp only[aa]) only[aH,LJ,go_sem,seval,ai])
 refine aE (m:=0) (σ:=Nat × List Seg × Int) (fun t=>segs.length-t.1) (fun t=>t.1<=segs.length∧t.2.1.length=t.1∧t.2.2=kH t.2.1∧Z=ka d t.2.1 (segs.drop t.1)) (fun t=>[V.one (.p 0 0),V.one (.p 1 0),V.one (.sl 2 3 0 t.2.1.length),vi t.2.2,vi t.1])
  (fun t=>[.cells [.d (.l (d.files.map Fil.enc)),zI d.cap,zB d.armed,zI d.left,zB d.down],.cells [zI ver,.d (.l (segs.map eI)),zI size,zW sum],.arr 3 (t.2.1.map Seg.enc) 0])
  (fun _=>(l6 Z,[])) ?_ (0,[],0) ⟨zP _,rfl,rfl,by rw[hZ];simp[ka]⟩ _ _ bv
 rintro⟨i,out,wh⟩ ⟨h1,h2,h3,h4⟩ R hR;simp only at h1 h2 h3 h4 ⊢;have hol:(out.map Seg.enc).length=out.length:=by simp
 by_cases c:i<segs.length
 ·have hc:(i:Int)<(segs.length:Int):=by omega
  have g1:(segs.map eI)[i]?=some [.i .i64 segs[i]]:=by rw[zG,zE c];rfl
  have hbi:=hb _ (zN c);have q1:=dk hbi;have q2:=hrd (fileN segs[i]);have q3:=nh (aB d.files (fileN segs[i])).1 (Nat.le_trans (bP _ _) (Nat.le_trans hd.used hu)) segs[i] (by omega)
  have hsl:(cP (aB d.files (fileN segs[i])).1 segs[i]).1.length<=1000000:=Nat.le_trans (jE _ _) (Nat.le_trans (bP _ _) (Nat.le_trans hd.used hu));have hR':=hR (i+1,out++[(cX d segs[i]).1],(cX d segs[i]).1.size) (by simp only[];omega)
  rw[zD c] at h4;unfold ka at h4;rw[jY] at h4;have hsn:(out++[(cX d segs[i]).1]).map Seg.enc=out.map Seg.enc++[[.i .i64 segs[i],.i .i64 (((cP (aB d.files (fileN segs[i])).1 segs[i]).1.length:Nat):Int),.i .i64 (((cP (aB d.files (fileN segs[i])).1 segs[i]).2.1:Nat):Int)]]:=by
   rw[List.map_append];rfl
  have hsz:(cX d segs[i]).1.size=(((cP (aB d.files (fileN segs[i])).1 segs[i]).2.1:Nat):Int):=rfl;have hsN:(cX d segs[i]).1.n=(((cP (aB d.files (fileN segs[i])).1 segs[i]).1.length:Nat):Int):=rfl;have hse:(cX d segs[i]).2=(cP (aB d.files (fileN segs[i])).1 segs[i]).2.2:=rfl;have hsl2:(out++[(cX d segs[i]).1]).length=out.length+1:=by rw[zA];rfl
  have hwn:=yw out (cX d segs[i]).1;have hrl:=bP d.files (fileN segs[i]);unfold gp at q3;by_cases c1:(aB d.files (fileN segs[i])).2=0
  ·rw[if_neg (by simp[c1])] at h4
   by_cases c2:i+1<segs.length
   ·have hc2:(i:Int)+1<(segs.length:Int):=by omega
    have g2:(segs.map eI)[i+1]?=some [.i .i64 segs[i+1]]:=by rw[zG,zE c2];rfl
    have ei:((i:Int)+1).toNat=i+1:=by omega
    rw[zD c2] at h4;simp only at h4;by_cases c3:(cX d segs[i]).2≠0∨segs[i]+(cX d segs[i]).1.n≠segs[i+1]
    ·rw[if_pos c3] at h4;simp only[Option.map_none] at h4;rw[h4];rw[hse,hsN] at c3;clear hR hR' hsn hsz hsN hse hwn h4;generalize hrf:aB d.files (fileN segs[i])=rf at *;generalize fileN segs[i]=fn at *;generalize segs[i+1]=b2 at *;generalize segs[i]=b at *;generalize hsc:cP rf.1 b=sc at *;obtain⟨sl,sa,se⟩:=sc;simp only at *;by_cases c4:se=0
     ·have c5:¬ (b+(sl.length:Int)=b2):=by
       rcases c3 with c3|c3
       ·exact absurd c4 c3
       ·exact c3
      subst c4;(simp(disch:=first|decide|omega|(intros;exact aj rfl rfl)|simp only[aa]) only[aH,rU,zT hc,hlm,g1,q1,q2,c1,q3,zT hc2,ei,g2,c5,zM,go_sem,seval,ai])
      try simp[trim,l6]
     ·(simp(disch:=first|decide|omega|(intros;exact aj rfl rfl)|simp only[aa]) only[aH,rU,zT hc,hlm,g1,q1,q2,c1,q3,zT hc2,c4,zM,go_sem,seval,ai])
      try simp[trim,l6]
    ·rw[if_neg c3] at h4;simp only[not_or,Decidable.not_not] at c3;have hK:=hR' ⟨by simp only[];omega,by simp only[];rw[hsl2];omega,by simp only[];rw[hwn],by
      simp only[];rw[h4,zD c2];unfold ka;rw[Option.map_map];congr 1
      funext x
      simp⟩
     rw[hse,hsN] at c3;simp only[hsn,hsl2,hsz] at hK;clear hR hR' hsn hsz hsN hse hwn h4 hsl2;generalize hrf:aB d.files (fileN segs[i])=rf at *;generalize fileN segs[i]=fn at *;generalize segs[i+1]=b2 at *;generalize segs[i]=b at *;generalize hsc:cP rf.1 b=sc at *;obtain⟨sl,sa,se⟩:=sc;simp only at *;obtain⟨c4,c5⟩:=c3;subst c4;(simp(disch:=first|decide|omega|(intros;exact aj rfl rfl)|simp only[aa]) only[aH,rU,zT hc,hlm,g1,q1,q2,c1,q3,zT hc2,ei,g2,eq_true c5,hol,zM,go_sem,seval,ai])
     exact hK _ _ bv
   ·have hc2:¬ (i:Int)+1<(segs.length:Int):=by omega
    have hdn:segs.drop (i+1)=[]:=zC (by omega)
    rw[hdn] at h4;simp only[Option.map_some] at h4;have hK:=hR' ⟨by simp only[];omega,by simp only[];rw[hsl2];omega,by simp only[];rw[hwn],by
     simp only[];rw[h4,hdn];simp[ka,cU]⟩
    simp only[hsn,hsl2,hsz] at hK;clear hR hR' hsn hsz hsN hse hwn h4 hsl2;generalize hrf:aB d.files (fileN segs[i])=rf at *;generalize fileN segs[i]=fn at *;generalize segs[i]=b at *;generalize hsc:cP rf.1 b=sc at *;obtain⟨sl,sa,se⟩:=sc;simp only at *;(simp(disch:=first|decide|omega|(intros;exact aj rfl rfl)|simp only[aa]) only[aH,rU,zT hc,hlm,g1,q1,q2,c1,q3,zF hc2,hol,zM,go_sem,seval,ai])
    exact hK _ _ bv
  ·rw[if_pos c1] at h4;simp only[Option.map_none] at h4;rw[h4];clear hR hR' hsn hsz hsN hse hwn h4;generalize hrf:aB d.files (fileN segs[i])=rf at *;(simp(disch:=first|decide|omega|(intros;exact aj rfl rfl)|simp only[aa]) only[aH,rU,zT hc,hlm,g1,q1,q2,c1,zM,go_sem,seval,ai])
   try simp[trim,l6]
 ·have hc:¬ (i:Int)<(segs.length:Int):=by omega
  rw[zC (by omega)] at h4
  have e:Z=some out:=by rw[h4];simp[ka,cU]
  rw[e];have htk:List.take out.length (out.map Seg.enc)=out.map Seg.enc:=zL (by simp)
  rw[h3];(simp(disch:=first|decide|omega|(intros;exact aj rfl rfl)|simp only[aa]) only[aH,rU,LJ,zF hc,hlm,htk,hol,zM,go_sem,seval,ai])
  try simp[trim,l6]
def bT (d:Dsk):Sto:=⟨d,0,[],0,0,0,0⟩
def mg (d:Dsk):Sto × Int:=if(bd [] d).2≠0 then(bT (bd [] d).1,(bd [] d).2) else bD (bd [] d).1
def cW (m:Man):List Txt:=[109]::(if 0<m.segs.headD 0 then[aV (m.segs.headD 0)] else[])
def cI (m:Man):List Txt:=cW m++m.segs.map fileN
def jM (d:Dsk) (m:Man):Bool:=decide (¬ 0<m.segs.headD 0) || (decide ((aB d.files (aV (m.segs.headD 0))).2=0) && (decide (((aB d.files (aV (m.segs.headD 0))).1.length:Int)=m.size) && decide (mS (aB d.files (aV (m.segs.headD 0))).1=m.sum)))
theorem gX {d:Dsk} {m:Man}:jM d m=true↔(0<m.segs.headD 0->(aB d.files (aV (m.segs.headD 0))).2=0∧((aB d.files (aV (m.segs.headD 0))).1.length:Int)=m.size∧mS (aB d.files (aV (m.segs.headD 0))).1=m.sum):=by
 unfold jM;generalize m.segs.headD 0=h;by_cases c:0<h
 ·simp only[c,not_true,decide_false,Bool.false_or,Bool.and_eq_true,decide_eq_true_eq,forall_const]
 ·simp[c]
def iO (d:Dsk) (g:Seg):Dsk × Int :=
 gK (fileN g.base) (if g.size<((aB d.files (fileN g.base)).1.length:Nat) then aA d (lU d.files (fileN g.base) g.size) else(d,0))
def vD (d:Dsk) (m:Man) (gs:List Seg):Sto × Int :=
 if(bd (cI m) d).2≠0 then(bT (bd (cI m) d).1,(bd (cI m) d).2) else
  if(iO (bd (cI m) d).1 (gs.getLastD ⟨0,0,0⟩)).2≠0 then(bT (iO (bd (cI m) d).1 (gs.getLastD ⟨0,0,0⟩)).1,(iO (bd (cI m) d).1 (gs.getLastD ⟨0,0,0⟩)).2) else
   (⟨(iO (bd (cI m) d).1 (gs.getLastD ⟨0,0,0⟩)).1,m.ver,gs,(gs.getLastD ⟨0,0,0⟩).base+(gs.getLastD ⟨0,0,0⟩).n,(gs.getLastD ⟨0,0,0⟩).base+(gs.getLastD ⟨0,0,0⟩).n,m.size,m.sum⟩,0)
def tH (d:Dsk) (m:Man):Sto × Int:=if jM d m=true then(match cU d m.segs with|some gs=>vD d m gs|none=>(bT d,3)) else(bT d,3)
def df (d:Dsk):Sto × Int :=
 if d.down=true then(bT d,10) else if(aB d.files [109]).2≠0 then mg d else match bG (aB d.files [109]).1 with
  | some m=>tH d m
  | none=>(bT d,3)
theorem z7 {k u:Nat}:∀ (l:List Txt) (s:Dsk × Int),okN k u s.1->okN k u (Kk l s).1
 | [],s,h=>h
 | n::l,s,h=>z7 l _ (dM h n)
theorem jx {k u:Nat} {d:Dsk} (h:okN k u d) (use:List Txt):okN k u (bd use d).1:=z7 _ _ h
theorem vg {k u:Nat} (d:Dsk) (hd:okN k u d) (hk:k<=700000) (hu:u<=700000000000):call 28 [.agg d.l] []=some (bh (mg d),[]):=by
 have q1:=o4 d hd (by omega) (by omega) [] (by decide)
 have k1:=jx hd [];unfold mg;generalize bd [] d=w at *;have q2:=sQ w.1 k1 (by omega) (by omega)
 have hcell:∀ s:Sto,s.l=[.d (.l (s.disk.files.map Fil.enc)),zI s.disk.cap,zB s.disk.armed,zI s.disk.left,zB s.disk.down,zI s.ver,.d (.l (s.segs.map Seg.enc)),zI s.next,zI s.sure,zI s.size,zW s.sum]:=fun _=>rfl
 obtain⟨⟨fl,cp,ar,lf,dn⟩,we⟩:=w;obtain⟨fl0,cp0,ar0,lf0,dn0⟩:=d;simp only[aR,Dsk.l,bh,hcell,List.map_nil] at q1 q2 ⊢;apply ah O7 rfl;by_cases c:we=0
 ·subst c;rw[if_neg (by simp)]
  (simp(disch:=first|decide|omega|(intros;exact aj rfl rfl)|simp only[aa]) only[aH,M1,q1,q2,go_sem,seval,ai])
  try simp[trim]
 ·rw[if_pos c];(simp(disch:=first|decide|omega|(intros;exact aj rfl rfl)|simp only[aa]) only[aH,M1,q1,c,go_sem,seval,ai])
  try simp[trim,bT,c]
theorem pN {k u:Nat} {d:Dsk} (h:okN k u d) (g:Seg):okN k u (aA d (lU d.files (fileN g.base) g.size)).1:=by
 refine oC h fun h0=>?_
 unfold lU at h0 ⊢;split at h0
 ·rename_i hh;rw[if_pos hh];split at h0
  ·cases h0
  ·rename_i hc;rw[if_neg hc];obtain⟨hp,he⟩:=bM hh;refine⟨by rw[va];exact h.len,gO (ol _ _ _ (fun _=>rfl)) h.srt,?_⟩
   simp only[iz hp];have hu:=kX d.files _ hp { d.files[aw d.files (fileN g.base)] with data:=d.files[aw d.files (fileN g.base)].data.take g.size.toNat,sure:=if g.size<d.files[aw d.files (fileN g.base)].sure then g.size else d.files[aw d.files (fileN g.base)].sure }
   have:=h.used;simp only[zQ] at hu;omega
 ·cases h0
theorem pO {k u:Nat} {d:Dsk} (h:okN k u d) (g:Seg):okN k u (iO d g).1:=by
 unfold iO;refine ky ?_ _;split
 ·exact pN h g
 ·exact h
theorem Aj {l:List Int} (h:1<=l.length):(l.map eI)[0]?=some [.i .i64 (l.headD 0)]:=by
 cases l with
 | nil=>simp at h
 | cons a r=>rfl
theorem lG:∀ (d:Dsk) (l:List Int) (gs:List Seg),cU d l=some gs->gs.length=l.length
 | d,[],gs,h=>by simp only[cU] at h;cases h;rfl
 | d,b::r,gs,h=>by
  rw[jY] at h;split at h
  ·cases h
  ·cases r with
   | nil=>simp only[Option.some.injEq] at h;subst h;rfl
   | cons c r =>
    simp only at h;split at h
    ·cases h
    ·obtain⟨gs',h1,h2⟩:=Option.map_eq_some_iff.1 h;subst h2;rw[List.length_cons,lG d (c::r) gs' h1];rfl
theorem rQ {k u:Nat} {d:Dsk} (hd:okN k u d):∀ (l:List Int) (gs:List Seg),cU d l=some gs->∀ g∈gs,g.base∈l∧(0<=g.n∧g.n<=u)∧(0<=g.size)
 | [],gs,h=>by simp only[cU] at h;cases h;simp
 | b::r,gs,h=>by
  have hone:b∈b::r∧(0<=(cX d b).1.n∧(cX d b).1.n<=u)∧0<=(cX d b).1.size:=by
   have:=Nat.le_trans (jE (aB d.files (fileN b)).1 b) (Nat.le_trans (bP _ _) hd.used);refine⟨by simp,⟨?_,?_⟩,?_⟩
   ·show 0<=((_:Nat):Int);omega
   ·show((_:Nat):Int)<=_;omega
   ·show 0<=((_:Nat):Int);omega
  rw[jY] at h;split at h
  ·cases h
  ·cases r with
   | nil=>simp only[Option.some.injEq] at h;subst h;intro g hg;rw[List.mem_singleton.1 hg];exact hone
   | cons c r =>
    simp only at h;split at h
    ·cases h
    ·obtain⟨gs',h1,h2⟩:=Option.map_eq_some_iff.1 h;subst h2;intro g hg;rcases List.mem_cons.1 hg with rfl|hg
     ·exact hone
     ·have:=rQ hd (c::r) gs' h1 g hg;exact⟨List.mem_cons_of_mem _ this.1,this.2⟩
theorem xl {k u:Nat} (d:Dsk) (hd:okN k u d) (hk:k<=700000) (hu:u<=1000000) (hdec:∀ m,bG (aB d.files [109]).1=some m->m.ok):call 11 [.agg d.l] []=some (bh (df d),[]):=by
 have hrd:=fun n=>fE d (Nat.le_trans hd.len (by omega)) hd.srt n
 have hcell:∀ s:Sto,s.l=[.d (.l (s.disk.files.map Fil.enc)),zI s.disk.cap,zB s.disk.armed,zI s.disk.left,zB s.disk.down,zI s.ver,.d (.l (s.segs.map Seg.enc)),zI s.next,zI s.sure,zI s.size,zW s.sum]:=fun _=>rfl
 have hdl:∀ d:Dsk,d.l=([.d (.l (d.files.map Fil.enc)),zI d.cap,zB d.armed,zI d.left,zB d.down]:List L):=fun _=>rfl
 have hds:∀ d:Dsk,[.d (.l ((bT d).disk.files.map Fil.enc)),.d (.i .i64 (bT d).disk.cap),.d (.b (bT d).disk.armed),.d (.i .i64 (bT d).disk.left),.d (.b (bT d).disk.down),.d (.i .i64 (bT d).ver),.d (.l ((bT d).segs.map Seg.enc)),.d (.i .i64 (bT d).next),.d (.i .i64 (bT d).sure),.d (.i .i64 (bT d).size),.d (.i .u32 (bT d).sum)]=([.d (.l (d.files.map Fil.enc)),zI d.cap,zB d.armed,zI d.left,zB d.down,zI 0,.d (.l []),zI 0,zI 0,zI 0,zW 0]:List L):=fun _=>rfl
 unfold df;apply ah N4 rfl;by_cases c0:d.down=true
 ·rw[if_pos c0];simp only[bh,hcell,hds,hdl] at hrd ⊢;rw[c0];(simp(disch:=first|decide|omega|(intros;exact aj rfl rfl)|simp only[aa]) only[aH,qR,go_sem,seval,ai])
  try simp[trim]
 ·rw[if_neg c0];have c0':d.down=false:=by simpa using c0
  have q1:=hrd [109];by_cases c1:(aB d.files [109]).2=0
  ·rw[if_neg (by simp[c1])]
   have hrl:=bP d.files [109];have hdu:=hd.used;obtain⟨Z,q2,hq2,hq3⟩:=xE (aB d.files [109]).1 (by omega) hdec
   cases hdm:bG (aB d.files [109]).1 with
   | none =>
    obtain⟨e,he,rfl⟩:=hq3 hdm;unfold dG cO at q2;generalize aB d.files [109]=rf at *;simp only[bh,hcell,hds,hdl] at q1 ⊢;rw[c0'] at q1 ⊢;(simp(disch:=first|decide|omega|(intros;exact aj rfl rfl)|simp only[aa]) only[aH,qR,q1,c1,q2,he,go_sem,seval,ai])
    try simp[trim]
   | some m =>
    have hZ:=hq2 m hdm;subst hZ;have hmb:=d5 (bJ hdm).1;have hmi:=db _ _ hmb.2.2.1;have hmo:=hdec m hdm;have hne:1<=m.segs.length:=hmb.2.1.1;have g0:=Aj hne;have hb0:∀ b∈m.segs,0<=b∧b<=1099511627776:=fun b hb=>by have:=hmi b hb;omega
    have hh:0<=m.segs.headD 0∧m.segs.headD 0<=1099511627776:=by
     cases hs:m.segs with
     | nil=>rw[hs] at hne;simp at hne
     | cons b r=>rw[hs] at hb0;exact hb0 b (by simp)
    have q3:=lI hh;have q4:=hrd (aV (m.segs.headD 0));have hr4:=bP d.files (aV (m.segs.headD 0));have q5:=mI (aB d.files (aV (m.segs.headD 0))).1 (by omega)
    have q6:=yD d hd (by omega) hu m hmb.2.1.2 hb0
    have hgl:=lG d m.segs;have hgb:=rQ hd m.segs;have q7:=o4 d hd (by omega) (by omega) (cI m) (by unfold cI cW;split <;> simp <;> omega)
    have k7:=jx hd (cI m);have hlm:(m.segs.map eI).length=m.segs.length:=by simp
    have hml:m.l=([zI m.ver,.d (.l (m.segs.map eI)),zI m.size,zW m.sum]:List L):=rfl;obtain⟨Z,hZ⟩:∃ Z,Z=tH d m:=⟨_,rfl⟩;show _=some (bh (tH d m),[]);rw[<- hZ];unfold tH at hZ;unfold kd at q2;have hsn:(mS (aB d.files (aV (m.segs.headD 0))).1)=(((bF 0#32 (aB d.files (aV (m.segs.headD 0))).1).toNat:Nat):Int):=rfl;by_cases c2:0<m.segs.headD 0
    ·by_cases c3:(aB d.files (aV (m.segs.headD 0))).2=0
     ·by_cases c4:((aB d.files (aV (m.segs.headD 0))).1.length:Int)=m.size
      ·by_cases c5:mS (aB d.files (aV (m.segs.headD 0))).1=m.sum
       ·rw[if_pos (gX.2 fun _=>⟨c3,c4,c5⟩)] at hZ
        have hU:cW m=[[109],aV (m.segs.headD 0)]:=by unfold cW;rw[if_pos c2]
        rw[hsn] at c5;rw[hml] at q2 q6;simp only[hdl] at q1 q4 q6 q7 ⊢;rw[c0'] at q1 q4 q6 q7 ⊢;obtain⟨cc,hcc⟩:∃ cc:Int,(((bF 0#32 (aB d.files (aV (m.segs.headD 0))).1).toNat:Nat):Int)=cc:=⟨_,rfl⟩;rw[hcc] at q5 c5;cases hsg:cU d m.segs with
        | none =>
         rw[hsg] at hZ q6;simp only at hZ;subst hZ;unfold l6 at q6;simp only[bh,hcell,hds];(simp(disch:=first|decide|omega|(intros;exact aj rfl rfl)|simp only[aa]) only[aH,qR,q1,c1,q2,g0,zT c2,q3,q4,c3,c4,q5,c5,q6,go_sem,seval,ai])
         try simp[trim,c0']
        | some gs =>
         rw[hsg] at hZ q6;simp only at hZ;replace hgl:=hgl gs hsg
         replace hgb:=hgb gs hsg
         simp only[l6] at q6;(simp(disch:=first|decide|omega|(intros;exact aj rfl rfl)|simp only[aa]) only[aH,qR,q1,c1,q2,g0,zT c2,q3,q4,c3,c4,q5,c5,q6,go_sem,seval,ai])
         refine aE (m:=0) (σ:=Nat) (fun i=>m.segs.length-i) (fun i=>i<=m.segs.length) (fun i=>[V.one (.p 0 0),V.one (.p 1 0),V.one (.p 2 0),V.one (.sl 3 1 0 (cW m++(m.segs.take i).map fileN).length),vl (gs.map Seg.enc),vi (kH gs),vi i])
          (fun i=>[.cells [.d (.l (d.files.map Fil.enc)),zI d.cap,zB d.armed,zI d.left,zB false],.cells [.ns,zI 0,zB false,zI 0,zB false,zI 0,.ns,zI 0,zI 0,zI 0,zW 0],.cells [zI m.ver,.d (.l (m.segs.map eI)),zI m.size,zW m.sum],.arr 1 ((cW m++(m.segs.take i).map fileN).map eT) 0])
          (fun _=>(bh Z,[])) ?_ 0 (zP _) _ _ (by rw[hU];exact bv)
         intro i h1 R hR;have hul:(cW m).length<=2:=by unfold cW;split <;> simp
         clear hU;by_cases hi:i<m.segs.length
         ·have hc:(i:Int)<(m.segs.length:Int):=by omega
          have g1:(m.segs.map eI)[i]?=some [.i .i64 m.segs[i]]:=by rw[zG,zE hi];rfl
          have qn:=dk (hb0 _ (zN hi));have hR':=hR (i+1) (by omega) (by omega)
          rw[zO hi] at hR';have e2:(cW m++(m.segs.take i++[m.segs[i]]).map fileN).map eT=(cW m++(m.segs.take i).map fileN).map eT++[[.s (fileN m.segs[i])]]:=by
           rw[List.map_append,List.map_append,List.map_append];simp[eT]
          have e3:(cW m++(m.segs.take i++[m.segs[i]]).map fileN).length=(cW m++(m.segs.take i).map fileN).length+1:=by simp;omega
          have hlen:((cW m++(m.segs.take i).map fileN).map eT).length=(cW m++(m.segs.take i).map fileN).length:=by simp
          have hl2:(cW m++(m.segs.take i).map fileN).length<=66:=by simp;omega
          rw[e2,e3] at hR';generalize (cW m++(m.segs.take i).map fileN).length=n at *;generalize (cW m++(m.segs.take i).map fileN).map eT=Q at *;(simp(disch:=first|decide|omega|(intros;exact aj rfl rfl)|simp only[aa]) only[aH,ib,zT hc,hlm,g1,qn,hlen,go_sem,seval,ai])
          exact hR' _ _ bv
         ·have hc:¬ (i:Int)<(m.segs.length:Int):=by omega
          have ht:m.segs.take i=m.segs:=zL (by omega)
          rw[ht];have hun:cW m++m.segs.map fileN=cI m:=rfl;rw[hun];have htk:List.take (cI m).length ((cI m).map eT)=(cI m).map eT:=zL (by simp)
          have hln:((cI m).map eT).length=(cI m).length:=by simp
          have hnl:(cI m).length<=66:=by unfold cI;simp;omega
          have hgm:gs≠[]:=by intro h;rw[h] at hgl;simp at hgl;omega
          have hgn:(gs.map Seg.enc).length=gs.length:=by simp
          have gl:(gs.map Seg.enc)[gs.length-1]?=some (gs.getLastD ⟨0,0,0⟩).enc:=by
           rw[zG,<- List.getLast?_eq_getElem?,List.getLastD_eq_getLast?,List.getLast?_eq_some_getLast hgm];rfl
          have ei:((gs.length:Int)-1).toNat=gs.length-1:=by omega
          have hgp:1<=gs.length:=by omega
          have hgq:gs.length<=64:=by omega
          have hwh:kH gs=(gs.getLastD ⟨0,0,0⟩).size:=rfl;have hgb':=hgb (gs.getLastD ⟨0,0,0⟩) (by rw[List.getLastD_eq_getLast?,List.getLast?_eq_some_getLast hgm];exact List.getLast_mem hgm)
          unfold vD at hZ;rw[hwh];generalize gs.getLastD ⟨0,0,0⟩=g at *;clear hgb hwh hgm hun hR ht;have hg0:=hb0 _ hgb'.1;have q8:=dk hg0;have q9:=fE (bd (cI m) d).1 (Nat.le_trans k7.len (by omega)) k7.srt (fileN g.base)
          have qc:=tF (bd (cI m) d).1 (k7.ok (by omega) (by omega)) (fileN g.base) g.size
          have kc:=pO k7 g;have qy:=fun d' (h:okN k u d')=>fK d' (h.ok (by omega) (by omega)) (fileN g.base)
          have hrl9:=bP (bd (cI m) d).1.files (fileN g.base);have hu9:=k7.used;have ecut:=pN k7 g;unfold iO gK rT at hZ;simp only at hZ;clear kc hdec hmi hmo hb0;clear q3 q4 q5 q6 hr4 hsn hh;generalize cI m=UN at *;generalize bd UN d=w at *;by_cases c8:w.2=0
          ·rw[if_neg (by simp[c8])] at hZ
           have hsz:=hgb'.2.2;have hgn0:=hgb'.2.1;by_cases c9:g.size<((aB w.1.files (fileN g.base)).1.length:Nat)
           ·rw[if_pos c9] at hZ;generalize aA w.1 (lU w.1.files (fileN g.base) g.size)=r at *;by_cases ca:r.2=0
            ·rw[if_pos ca] at hZ;have qz:=qy r.1 ecut;clear qy;generalize aA r.1 (di r.1.files (fileN g.base))=t at *;by_cases cb:t.2=0
             ·rw[if_neg (by simp[cb])] at hZ
              subst hZ;generalize aB w.1.files (fileN g.base)=rg at *;generalize fileN g.base=fg at *;obtain⟨⟨wf,wc,wa,wl,wd⟩,we⟩:=w;obtain⟨⟨rf',rc,ra,rl,rd⟩,re⟩:=r;obtain⟨⟨tf,tc,ta,tl,td⟩,te⟩:=t;obtain⟨gb,gn,gz⟩:=g;simp only[aR,Dsk.l,Seg.enc] at *;(simp(disch:=first|decide|omega|(intros;exact aj rfl rfl)|simp only[aa]) only[aH,ib,qR,zF hc,hlm,htk,hln,q7,c8,gl,hgn,ei,q8,q9,zT c9,qc,ca,qz,cb,bh,hcell,go_sem,seval,ai])
              try simp[trim]
             ·rw[if_pos cb] at hZ;subst hZ;generalize aB w.1.files (fileN g.base)=rg at *;generalize fileN g.base=fg at *;obtain⟨⟨wf,wc,wa,wl,wd⟩,we⟩:=w;obtain⟨⟨rf',rc,ra,rl,rd⟩,re⟩:=r;obtain⟨⟨tf,tc,ta,tl,td⟩,te⟩:=t;obtain⟨gb,gn,gz⟩:=g;simp only[aR,Dsk.l,Seg.enc] at *;(simp(disch:=first|decide|omega|(intros;exact aj rfl rfl)|simp only[aa]) only[aH,ib,qR,zF hc,hlm,htk,hln,q7,c8,gl,hgn,ei,q8,q9,zT c9,qc,ca,qz,cb,bh,hcell,hds,go_sem,seval,ai])
              try simp[trim]
            ·rw[if_neg ca,if_pos ca] at hZ;subst hZ;clear qy;generalize aB w.1.files (fileN g.base)=rg at *;generalize fileN g.base=fg at *;obtain⟨⟨wf,wc,wa,wl,wd⟩,we⟩:=w;obtain⟨⟨rf',rc,ra,rl,rd⟩,re⟩:=r;obtain⟨gb,gn,gz⟩:=g;simp only[aR,Dsk.l,Seg.enc] at *;(simp(disch:=first|decide|omega|(intros;exact aj rfl rfl)|simp only[aa]) only[aH,ib,qR,zF hc,hlm,htk,hln,q7,c8,gl,hgn,ei,q8,q9,zT c9,qc,ca,bh,hcell,hds,go_sem,seval,ai])
             try simp[trim]
           ·rw[if_neg c9] at hZ;have qz:=qy w.1 k7;clear qy qc ecut;rw[if_pos rfl] at hZ;simp only at hZ;generalize aA w.1 (di w.1.files (fileN g.base))=t at *;by_cases cb:t.2=0
            ·rw[if_neg (by simp[cb])] at hZ
             subst hZ;generalize aB w.1.files (fileN g.base)=rg at *;generalize fileN g.base=fg at *;obtain⟨⟨wf,wc,wa,wl,wd⟩,we⟩:=w;obtain⟨⟨tf,tc,ta,tl,td⟩,te⟩:=t;obtain⟨gb,gn,gz⟩:=g;simp only[aR,Dsk.l,Seg.enc] at *;(simp(disch:=first|decide|omega|(intros;exact aj rfl rfl)|simp only[aa]) only[aH,ib,qR,zF hc,hlm,htk,hln,q7,c8,gl,hgn,ei,q8,q9,zF c9,qz,cb,bh,hcell,go_sem,seval,ai])
             try simp[trim]
            ·rw[if_pos cb] at hZ;subst hZ;generalize aB w.1.files (fileN g.base)=rg at *;generalize fileN g.base=fg at *;obtain⟨⟨wf,wc,wa,wl,wd⟩,we⟩:=w;obtain⟨⟨tf,tc,ta,tl,td⟩,te⟩:=t;obtain⟨gb,gn,gz⟩:=g;simp only[aR,Dsk.l,Seg.enc] at *;(simp(disch:=first|decide|omega|(intros;exact aj rfl rfl)|simp only[aa]) only[aH,ib,qR,zF hc,hlm,htk,hln,q7,c8,gl,hgn,ei,q8,q9,zF c9,qz,cb,bh,hcell,hds,go_sem,seval,ai])
             try simp[trim]
          ·rw[if_pos c8] at hZ;subst hZ;clear qy qc ecut;obtain⟨⟨wf,wc,wa,wl,wd⟩,we⟩:=w;simp only[aR,Dsk.l] at *;(simp(disch:=first|decide|omega|(intros;exact aj rfl rfl)|simp only[aa]) only[aH,ib,qR,zF hc,hlm,htk,hln,q7,c8,bh,hcell,hds,go_sem,seval,ai])
           try simp[trim]
       ·rw[if_neg fun h=>c5 (gX.1 h c2).2.2] at hZ
        subst hZ;rw[hsn] at c5;rw[hml] at q2;generalize aB d.files [109]=rf at *;generalize aB d.files (aV (m.segs.headD 0))=rs at *;generalize aV (m.segs.headD 0)=sn at *;generalize m.segs.headD 0=h0 at *;simp only[bh,hcell,hds,hdl] at q1 q4 ⊢;rw[c0'] at q1 q4 ⊢;obtain⟨cc,hcc⟩:∃ cc:Int,(((bF 0#32 rs.1).toNat:Nat):Int)=cc:=⟨_,rfl⟩;rw[hcc] at q5 c5;(simp(disch:=first|decide|omega|(intros;exact aj rfl rfl)|simp only[aa]) only[aH,qR,q1,c1,q2,g0,zT c2,q3,q4,c3,c4,q5,c5,go_sem,seval,ai])
        try simp[trim]
      ·rw[if_neg fun h=>c4 (gX.1 h c2).2.1] at hZ
       subst hZ;rw[hml] at q2;generalize aB d.files [109]=rf at *;generalize aB d.files (aV (m.segs.headD 0))=rs at *;generalize aV (m.segs.headD 0)=sn at *;generalize m.segs.headD 0=h0 at *;simp only[bh,hcell,hds,hdl] at q1 q4 ⊢;rw[c0'] at q1 q4 ⊢;(simp(disch:=first|decide|omega|(intros;exact aj rfl rfl)|simp only[aa]) only[aH,qR,q1,c1,q2,g0,zT c2,q3,q4,c3,c4,go_sem,seval,ai])
       try simp[trim]
     ·rw[if_neg fun h=>c3 (gX.1 h c2).1] at hZ
      subst hZ;rw[hml] at q2;generalize aB d.files [109]=rf at *;generalize aB d.files (aV (m.segs.headD 0))=rs at *;generalize aV (m.segs.headD 0)=sn at *;generalize m.segs.headD 0=h0 at *;simp only[bh,hcell,hds,hdl] at q1 q4 ⊢;rw[c0'] at q1 q4 ⊢;(simp(disch:=first|decide|omega|(intros;exact aj rfl rfl)|simp only[aa]) only[aH,qR,q1,c1,q2,g0,zT c2,q3,q4,c3,go_sem,seval,ai])
      try simp[trim]
    ·rw[if_pos (gX.2 fun h=>absurd h c2)] at hZ
     have hU:cW m=[[109]]:=by unfold cW;rw[if_neg c2]
     rw[hml] at q2 q6;simp only[hdl] at q1 q4 q6 q7 ⊢;rw[c0'] at q1 q4 q6 q7 ⊢;cases hsg:cU d m.segs with
     | none =>
      rw[hsg] at hZ q6;simp only at hZ;subst hZ;unfold l6 at q6;simp only[bh,hcell,hds];(simp(disch:=first|decide|omega|(intros;exact aj rfl rfl)|simp only[aa]) only[aH,qR,q1,c1,q2,g0,zF c2,q6,go_sem,seval,ai])
      try simp[trim,c0']
     | some gs =>
      rw[hsg] at hZ q6;simp only at hZ;replace hgl:=hgl gs hsg
      replace hgb:=hgb gs hsg
      simp only[l6] at q6;(simp(disch:=first|decide|omega|(intros;exact aj rfl rfl)|simp only[aa]) only[aH,qR,q1,c1,q2,g0,zF c2,q6,go_sem,seval,ai])
      refine aE (m:=0) (σ:=Nat) (fun i=>m.segs.length-i) (fun i=>i<=m.segs.length) (fun i=>[V.one (.p 0 0),V.one (.p 1 0),V.one (.p 2 0),V.one (.sl 3 1 0 (cW m++(m.segs.take i).map fileN).length),vl (gs.map Seg.enc),vi (kH gs),vi i])
       (fun i=>[.cells [.d (.l (d.files.map Fil.enc)),zI d.cap,zB d.armed,zI d.left,zB false],.cells [.ns,zI 0,zB false,zI 0,zB false,zI 0,.ns,zI 0,zI 0,zI 0,zW 0],.cells [zI m.ver,.d (.l (m.segs.map eI)),zI m.size,zW m.sum],.arr 1 ((cW m++(m.segs.take i).map fileN).map eT) 0])
       (fun _=>(bh Z,[])) ?_ 0 (zP _) _ _ (by rw[hU];exact bv)
      intro i h1 R hR;have hul:(cW m).length<=2:=by unfold cW;split <;> simp
      clear hU;by_cases hi:i<m.segs.length
      ·have hc:(i:Int)<(m.segs.length:Int):=by omega
       have g1:(m.segs.map eI)[i]?=some [.i .i64 m.segs[i]]:=by rw[zG,zE hi];rfl
       have qn:=dk (hb0 _ (zN hi));have hR':=hR (i+1) (by omega) (by omega)
       rw[zO hi] at hR';have e2:(cW m++(m.segs.take i++[m.segs[i]]).map fileN).map eT=(cW m++(m.segs.take i).map fileN).map eT++[[.s (fileN m.segs[i])]]:=by
        rw[List.map_append,List.map_append,List.map_append];simp[eT]
       have e3:(cW m++(m.segs.take i++[m.segs[i]]).map fileN).length=(cW m++(m.segs.take i).map fileN).length+1:=by simp;omega
       have hlen:((cW m++(m.segs.take i).map fileN).map eT).length=(cW m++(m.segs.take i).map fileN).length:=by simp
       have hl2:(cW m++(m.segs.take i).map fileN).length<=66:=by simp;omega
       rw[e2,e3] at hR';generalize (cW m++(m.segs.take i).map fileN).length=n at *;generalize (cW m++(m.segs.take i).map fileN).map eT=Q at *;(simp(disch:=first|decide|omega|(intros;exact aj rfl rfl)|simp only[aa]) only[aH,ib,zT hc,hlm,g1,qn,hlen,go_sem,seval,ai])
       exact hR' _ _ bv
      ·have hc:¬ (i:Int)<(m.segs.length:Int):=by omega
       have ht:m.segs.take i=m.segs:=zL (by omega)
       rw[ht];have hun:cW m++m.segs.map fileN=cI m:=rfl;rw[hun];have htk:List.take (cI m).length ((cI m).map eT)=(cI m).map eT:=zL (by simp)
       have hln:((cI m).map eT).length=(cI m).length:=by simp
       have hnl:(cI m).length<=66:=by unfold cI;simp;omega
       have hgm:gs≠[]:=by intro h;rw[h] at hgl;simp at hgl;omega
       have hgn:(gs.map Seg.enc).length=gs.length:=by simp
       have gl:(gs.map Seg.enc)[gs.length-1]?=some (gs.getLastD ⟨0,0,0⟩).enc:=by
        rw[zG,<- List.getLast?_eq_getElem?,List.getLastD_eq_getLast?,List.getLast?_eq_some_getLast hgm];rfl
       have ei:((gs.length:Int)-1).toNat=gs.length-1:=by omega
       have hgp:1<=gs.length:=by omega
       have hgq:gs.length<=64:=by omega
       have hwh:kH gs=(gs.getLastD ⟨0,0,0⟩).size:=rfl;have hgb':=hgb (gs.getLastD ⟨0,0,0⟩) (by rw[List.getLastD_eq_getLast?,List.getLast?_eq_some_getLast hgm];exact List.getLast_mem hgm)
       unfold vD at hZ;rw[hwh];generalize gs.getLastD ⟨0,0,0⟩=g at *;clear hgb hwh hgm hun hR ht;have hg0:=hb0 _ hgb'.1;have q8:=dk hg0;have q9:=fE (bd (cI m) d).1 (Nat.le_trans k7.len (by omega)) k7.srt (fileN g.base)
       have qc:=tF (bd (cI m) d).1 (k7.ok (by omega) (by omega)) (fileN g.base) g.size
       have kc:=pO k7 g;have qy:=fun d' (h:okN k u d')=>fK d' (h.ok (by omega) (by omega)) (fileN g.base)
       have hrl9:=bP (bd (cI m) d).1.files (fileN g.base);have hu9:=k7.used;have ecut:=pN k7 g;unfold iO gK rT at hZ;simp only at hZ;clear kc hdec hmi hmo hb0;clear q3 q4 q5 q6 hr4 hsn hh;generalize cI m=UN at *;generalize bd UN d=w at *;by_cases c8:w.2=0
       ·rw[if_neg (by simp[c8])] at hZ
        have hsz:=hgb'.2.2;have hgn0:=hgb'.2.1;by_cases c9:g.size<((aB w.1.files (fileN g.base)).1.length:Nat)
        ·rw[if_pos c9] at hZ;generalize aA w.1 (lU w.1.files (fileN g.base) g.size)=r at *;by_cases ca:r.2=0
         ·rw[if_pos ca] at hZ;have qz:=qy r.1 ecut;clear qy;generalize aA r.1 (di r.1.files (fileN g.base))=t at *;by_cases cb:t.2=0
          ·rw[if_neg (by simp[cb])] at hZ
           subst hZ;generalize aB w.1.files (fileN g.base)=rg at *;generalize fileN g.base=fg at *;obtain⟨⟨wf,wc,wa,wl,wd⟩,we⟩:=w;obtain⟨⟨rf',rc,ra,rl,rd⟩,re⟩:=r;obtain⟨⟨tf,tc,ta,tl,td⟩,te⟩:=t;obtain⟨gb,gn,gz⟩:=g;simp only[aR,Dsk.l,Seg.enc] at *;(simp(disch:=first|decide|omega|(intros;exact aj rfl rfl)|simp only[aa]) only[aH,ib,qR,zF hc,hlm,htk,hln,q7,c8,gl,hgn,ei,q8,q9,zT c9,qc,ca,qz,cb,bh,hcell,go_sem,seval,ai])
           try simp[trim]
          ·rw[if_pos cb] at hZ;subst hZ;generalize aB w.1.files (fileN g.base)=rg at *;generalize fileN g.base=fg at *;obtain⟨⟨wf,wc,wa,wl,wd⟩,we⟩:=w;obtain⟨⟨rf',rc,ra,rl,rd⟩,re⟩:=r;obtain⟨⟨tf,tc,ta,tl,td⟩,te⟩:=t;obtain⟨gb,gn,gz⟩:=g;simp only[aR,Dsk.l,Seg.enc] at *;(simp(disch:=first|decide|omega|(intros;exact aj rfl rfl)|simp only[aa]) only[aH,ib,qR,zF hc,hlm,htk,hln,q7,c8,gl,hgn,ei,q8,q9,zT c9,qc,ca,qz,cb,bh,hcell,hds,go_sem,seval,ai])
           try simp[trim]
         ·rw[if_neg ca,if_pos ca] at hZ;subst hZ;clear qy;generalize aB w.1.files (fileN g.base)=rg at *;generalize fileN g.base=fg at *;obtain⟨⟨wf,wc,wa,wl,wd⟩,we⟩:=w;obtain⟨⟨rf',rc,ra,rl,rd⟩,re⟩:=r;obtain⟨gb,gn,gz⟩:=g;simp only[aR,Dsk.l,Seg.enc] at *;(simp(disch:=first|decide|omega|(intros;exact aj rfl rfl)|simp only[aa]) only[aH,ib,qR,zF hc,hlm,htk,hln,q7,c8,gl,hgn,ei,q8,q9,zT c9,qc,ca,bh,hcell,hds,go_sem,seval,ai])
          try simp[trim]
        ·rw[if_neg c9] at hZ;have qz:=qy w.1 k7;clear qy qc ecut;rw[if_pos rfl] at hZ;simp only at hZ;generalize aA w.1 (di w.1.files (fileN g.base))=t at *;by_cases cb:t.2=0
         ·rw[if_neg (by simp[cb])] at hZ
          subst hZ;generalize aB w.1.files (fileN g.base)=rg at *;generalize fileN g.base=fg at *;obtain⟨⟨wf,wc,wa,wl,wd⟩,we⟩:=w;obtain⟨⟨tf,tc,ta,tl,td⟩,te⟩:=t;obtain⟨gb,gn,gz⟩:=g;simp only[aR,Dsk.l,Seg.enc] at *;(simp(disch:=first|decide|omega|(intros;exact aj rfl rfl)|simp only[aa]) only[aH,ib,qR,zF hc,hlm,htk,hln,q7,c8,gl,hgn,ei,q8,q9,zF c9,qz,cb,bh,hcell,go_sem,seval,ai])
          try simp[trim]
         ·rw[if_pos cb] at hZ;subst hZ;generalize aB w.1.files (fileN g.base)=rg at *;generalize fileN g.base=fg at *;obtain⟨⟨wf,wc,wa,wl,wd⟩,we⟩:=w;obtain⟨⟨tf,tc,ta,tl,td⟩,te⟩:=t;obtain⟨gb,gn,gz⟩:=g;simp only[aR,Dsk.l,Seg.enc] at *;(simp(disch:=first|decide|omega|(intros;exact aj rfl rfl)|simp only[aa]) only[aH,ib,qR,zF hc,hlm,htk,hln,q7,c8,gl,hgn,ei,q8,q9,zF c9,qz,cb,bh,hcell,hds,go_sem,seval,ai])
          try simp[trim]
       ·rw[if_pos c8] at hZ;subst hZ;clear qy qc ecut;obtain⟨⟨wf,wc,wa,wl,wd⟩,we⟩:=w;simp only[aR,Dsk.l] at *;(simp(disch:=first|decide|omega|(intros;exact aj rfl rfl)|simp only[aa]) only[aH,ib,qR,zF hc,hlm,htk,hln,q7,c8,bh,hcell,hds,go_sem,seval,ai])
        try simp[trim]
  ·rw[if_pos c1];have q3:=vg d hd hk (by omega)
   generalize aB d.files [109]=rf at *;generalize mg d=r at *;obtain⟨y,e⟩:=r;simp only[bh,hcell,hdl] at q1 q3 ⊢;rw[c0'] at q1 q3 ⊢;(simp(disch:=first|decide|omega|(intros;exact aj rfl rfl)|simp only[aa]) only[aH,qR,q1,c1,q3,go_sem,seval,ai])
   try simp[trim]
abbrev Rows:=List (Txt × Bool)
def iB (d:Dsk) (m:Man) (sg us:L):List L:=[.d (.l (d.files.map Fil.enc)),zI d.cap,zB d.armed,zI d.left,zB d.down,zI m.ver,.d (.l (m.segs.map eI)),zI m.size,zW m.sum,sg,us]
theorem pX (rows:Rows) (n u:Txt):kj (dD rows n true) u=(decide (n=u) || kj rows u):=by
 induction rows with
 | nil=>by_cases h:n=u <;> simp[dD,kj,h]
 | cons r t ih =>
  simp only[dD];by_cases h:r.1=n
  ·rw[if_pos h];simp only[kj];by_cases h2:n=u
   ·simp[h2]
   ·have:¬ r.1=u:=fun e=>h2 (h ▸ e)
    simp[h2,this]
  ·rw[if_neg h];simp only[kj,ih];by_cases h2:r.1=u
   ·have:¬ n=u:=fun e=>h (h2.trans e.symm)
    simp[h2,this]
   ·simp[h2]
def tL (m:Man) (rows:Rows):Rows:=if m.segs.headD 0=0 then rows else dD rows (aV (m.segs.headD 0)) true
theorem yX {k u:Nat} (d:Dsk) (hd:okN k u d) (hk:k<=700000) (hu:u<=1000000) (m:Man) (hm:manB m=true) (rows:Rows) :
  call 56 [.one (.p 0 0)] [.cells (iB d m .ns (.m 1)),.mp rows]=some (vb (jM d m),[.cells (iB d m .ns (.m 1)),.mp (tL m rows)]):=by
 have hmb:=d5 hm;have hmi:=db _ _ hmb.2.2.1;have g0:=Aj hmb.2.1.1;have hh:0<=m.segs.headD 0∧m.segs.headD 0<=1099511627776:=by
  have hne:=hmb.2.1.1;cases hs:m.segs with
  | nil=>rw[hs] at hne;simp at hne
  | cons b r=>rw[hs] at hmi;have:=hmi b (by simp);simp only[List.headD_cons];omega
 have q3:=DE hh;have q4:=gS d (Nat.le_trans hd.len (by omega)) hd.srt (aV (m.segs.headD 0))
 have hrl:=bP d.files (aV (m.segs.headD 0));have hdu:=hd.used;have q5:=Cg (aB d.files (aV (m.segs.headD 0))).1 (by omega)
 unfold jM tL iB;have hlm:(m.segs.map eI).length=m.segs.length:=by simp
 have hln:1<=m.segs.length:=hmb.2.1.1;generalize m.segs.headD 0=f at *;generalize aV f=N at *;generalize aB d.files N=rf at *;obtain⟨x,e⟩:=rf;simp only[Dsk.l] at q4 q5 ⊢;apply ah OM rfl;by_cases c:f=0
 ·subst c;(simp(disch:=first|decide|omega|(intros;exact aj rfl rfl)|simp only[aa]) only[aH,J0,g0,hlm,go_sem,seval,ai,bg,A.kind,A.xs,aG,A.isN])
  try simp[zR]
 ·have c0:(0<f):=by omega
  rw[if_neg c];by_cases c1:e=0
  ·subst c1;by_cases c2:((x.length:Nat):Int)=m.size
   ·by_cases c3:mS x=m.sum
    ·(simp(disch:=first|decide|omega|(intros;exact aj rfl rfl)|simp only[aa]) only[aH,J0,g0,hlm,q3,q4,↓gD,AJ,tY,dj,q5,c,eq_true c2,eq_true c3,go_sem,seval,ai,bg,A.kind,A.xs,aG,A.isN])
     simp[zR,c0,c2,c3]
    ·(simp(disch:=first|decide|omega|(intros;exact aj rfl rfl)|simp only[aa]) only[aH,J0,g0,hlm,q3,q4,↓gD,AJ,tY,dj,q5,c,eq_true c2,eq_false c3,go_sem,seval,ai,bg,A.kind,A.xs,aG,A.isN])
     simp[zR,c0,c2,c3]
   ·(simp(disch:=first|decide|omega|(intros;exact aj rfl rfl)|simp only[aa]) only[aH,J0,g0,hlm,q3,q4,↓gD,AJ,tY,dj,q5,c,eq_false c2,go_sem,seval,ai,bg,A.kind,A.xs,aG,A.isN])
    simp[zR,c0,c2]
  ·(simp(disch:=first|decide|omega|(intros;exact aj rfl rfl)|simp only[aa]) only[aH,J0,g0,hlm,q3,q4,↓gD,AJ,tY,dj,q5,c,eq_false c1,go_sem,seval,ai,bg,A.kind,A.xs,aG,A.isN])
   simp[zR,c0,c1]
def w4 (m:Man) (i:Nat):Bool:=decide ((i:Int)=(m.segs.length:Int)-1)
def kh (d:Dsk) (m:Man) (i:Nat) (b:Int):Bool:=w4 m i || (decide ((cX d b).2=0) && decide (b+(cX d b).1.n=m.segs.getD (i+1) 0))
theorem ya {k u:Nat} (d:Dsk) (hd:okN k u d) (hk:k<=700000) (hu:u<=1000000) (m:Man) (hm:manB m=true) (rows:Rows) (i:Nat) (hi:i<m.segs.length) :
  call 57 [.one (.p 0 0),vi i] [.cells (iB d m .ns (.m 1)),.mp rows] =
   if(aB d.files (fileN (m.segs[i]))).2≠0 then some (vb false,[.cells (iB d m .ns (.m 1)),.mp (dD rows (fileN m.segs[i]) true)])
   else some (vb (kh d m i m.segs[i]),[.cells (iB d m (.sl 3 3 0 1) (.m 1)),.mp (dD rows (fileN m.segs[i]) true),.arr 3 [(cX d m.segs[i]).1.enc] 0,.arr 3 [(cX d m.segs[i]).1.enc] 0]):=by
 have hmb:=d5 hm;have hmi:=db _ _ hmb.2.2.1;have hbi:=hmi _ (zN hi);have g1:(m.segs.map eI)[i]?=some [.i .i64 m.segs[i]]:=by rw[zG,zE hi];rfl
 have q1:=pK (show 0<=m.segs[i]∧m.segs[i]<=1099511627776 by omega)
 have q2:=gS d (Nat.le_trans hd.len (by omega)) hd.srt (fileN m.segs[i])
 have hrl:=bP d.files (fileN m.segs[i]);have hdu:=hd.used;have q3:=tA (aB d.files (fileN m.segs[i])).1 (Nat.le_trans hrl (Nat.le_trans hdu hu)) m.segs[i] (by omega)
 have hsl:=Nat.le_trans (jE (aB d.files (fileN m.segs[i])).1 m.segs[i]) (Nat.le_trans hrl (Nat.le_trans hdu hu));have hlm:(m.segs.map eI).length=m.segs.length:=by simp
 have hml:=hmb.2.1;unfold kh w4 cX iB;unfold gp at q3;simp only[Seg.enc] at q3 ⊢;obtain⟨nx,hnx⟩:∃ nx,nx=m.segs.getD (i+1) 0:=⟨_,rfl⟩;have g2:i+1<m.segs.length->(m.segs.map eI)[i+1]?=some [.i .i64 nx]:=fun h=>by
  rw[zG,zE h,hnx,List.getD_eq_getElem?_getD,zE h];rfl
 rw[<- hnx];obtain⟨ml,hmle⟩:∃ ml,ml=m.segs.length:=⟨_,rfl⟩;rw[<- hmle] at hlm hml hi g2 ⊢;generalize m.segs[i]=b at *;generalize fileN b=N at *;generalize aB d.files N=rf at *;obtain⟨x,e⟩:=rf;simp only at q2 q3 hsl hrl ⊢;generalize cP x b=sc at *;obtain⟨sl,sa,se⟩:=sc;simp only[Dsk.l] at q2 q3 hsl ⊢;have hw0:((0:Int)<=(i:Int)):=by omega
 by_cases c:e=0
 ·subst c;rw[if_neg (by simp)]
  apply ah Lv rfl;by_cases c1:(i:Int)=(ml:Int)-1
  ·(simp(disch:=first|decide|omega|(intros;exact aj rfl rfl)|simp only[aa]) only[aH,CX,g1,hlm,q1,q2,q3,eq_true c1,zM,go_sem,seval,ai,bg,A.kind,A.xs,aG,A.isN])
   simp[zR,c1]
  ·have hi2:i+1<ml:=by omega
   have g2':=g2 hi2;have ei:((i:Int)+1).toNat=i+1:=by omega
   by_cases c2:se=0
   ·subst c2;by_cases c3:b+(sl.length:Int)=nx
    ·(simp(disch:=first|decide|omega|(intros;exact aj rfl rfl)|simp only[aa]) only[aH,CX,g1,hlm,q1,q2,q3,eq_false c1,ei,g2',eq_true c3,zM,go_sem,seval,ai,bg,A.kind,A.xs,aG,A.isN])
     simp[zR,c1,c3]
    ·(simp(disch:=first|decide|omega|(intros;exact aj rfl rfl)|simp only[aa]) only[aH,CX,g1,hlm,q1,q2,q3,eq_false c1,ei,g2',eq_false c3,zM,go_sem,seval,ai,bg,A.kind,A.xs,aG,A.isN])
     simp[zR,c1,c3]
   ·(simp(disch:=first|decide|omega|(intros;exact aj rfl rfl)|simp only[aa]) only[aH,CX,g1,hlm,q1,q2,q3,eq_false c1,ei,g2',eq_false c2,zM,go_sem,seval,ai,bg,A.kind,A.xs,aG,A.isN])
    simp[zR,c1,c2]
 ·rw[if_pos c];apply ah Lv rfl;(simp(disch:=first|decide|omega|(intros;exact aj rfl rfl)|simp only[aa]) only[aH,CX,g1,hlm,q1,q2,eq_false c,go_sem,seval,ai,bg,A.kind,A.xs,aG,A.isN])
  simp[zR]
theorem xZ {k u:Nat} (d:Dsk) (hd:okN k u d) (hk:k<=700000) (hu:u<=1000000) (m:Man) (hm:manB m=true) (rows:Rows) (i:Nat) (hi:i<m.segs.length) (gs:List Seg) (hgl:gs.length<=64) :
  call 57 [.one (.p 0 0),vi i] [.cells (iB d m (.sl 1 3 0 gs.length) (.m 2)),.arr 3 (gs.map Seg.enc) 0,.mp rows] =
   if(aB d.files (fileN (m.segs[i]))).2≠0 then some (vb false,[.cells (iB d m (.sl 1 3 0 gs.length) (.m 2)),.arr 3 (gs.map Seg.enc) 0,.mp (dD rows (fileN m.segs[i]) true)])
   else some (vb (kh d m i m.segs[i]),[.cells (iB d m (.sl 4 3 0 (gs.length+1)) (.m 2)),.dead,.mp (dD rows (fileN m.segs[i]) true),.arr 3 [(cX d m.segs[i]).1.enc] 0,.arr 3 (gs.map Seg.enc++[(cX d m.segs[i]).1.enc]) 0]):=by
 have hmb:=d5 hm;have hmi:=db _ _ hmb.2.2.1;have hbi:=hmi _ (zN hi);have g1:(m.segs.map eI)[i]?=some [.i .i64 m.segs[i]]:=by rw[zG,zE hi];rfl
 have q1:=pK (show 0<=m.segs[i]∧m.segs[i]<=1099511627776 by omega)
 have q2:=gS d (Nat.le_trans hd.len (by omega)) hd.srt (fileN m.segs[i])
 have hrl:=bP d.files (fileN m.segs[i]);have hdu:=hd.used;have q3:=tA (aB d.files (fileN m.segs[i])).1 (Nat.le_trans hrl (Nat.le_trans hdu hu)) m.segs[i] (by omega)
 have hsl:=Nat.le_trans (jE (aB d.files (fileN m.segs[i])).1 m.segs[i]) (Nat.le_trans hrl (Nat.le_trans hdu hu));have hlm:(m.segs.map eI).length=m.segs.length:=by simp
 have hml:=hmb.2.1;have hgm:(gs.map Seg.enc).length=gs.length:=by simp
 generalize gs.map Seg.enc=G at *;generalize gs.length=gl at *;unfold kh w4 cX iB;unfold gp at q3;simp only[Seg.enc] at q3 ⊢;obtain⟨nx,hnx⟩:∃ nx,nx=m.segs.getD (i+1) 0:=⟨_,rfl⟩;have g2:i+1<m.segs.length->(m.segs.map eI)[i+1]?=some [.i .i64 nx]:=fun h=>by
  rw[zG,zE h,hnx,List.getD_eq_getElem?_getD,zE h];rfl
 rw[<- hnx];obtain⟨ml,hmle⟩:∃ ml,ml=m.segs.length:=⟨_,rfl⟩;rw[<- hmle] at hlm hml hi g2 ⊢;generalize m.segs[i]=b at *;generalize fileN b=N at *;generalize aB d.files N=rf at *;obtain⟨x,e⟩:=rf;simp only at q2 q3 hsl hrl ⊢;generalize cP x b=sc at *;obtain⟨sl,sa,se⟩:=sc;simp only[Dsk.l] at q2 q3 hsl ⊢;have hw0:((0:Int)<=(i:Int)):=by omega
 by_cases c:e=0
 ·subst c;rw[if_neg (by simp)]
  apply ah Lv rfl;by_cases c1:(i:Int)=(ml:Int)-1
  ·(simp(disch:=first|decide|omega|(intros;exact aj rfl rfl)|simp only[aa]) only[aH,CX,g1,hlm,q1,q2,q3,eq_true c1,hgm,zM,go_sem,seval,ai,bg,A.kind,A.xs,aG,A.isN])
   simp[zR,c1]
  ·have hi2:i+1<ml:=by omega
   have g2':=g2 hi2;have ei:((i:Int)+1).toNat=i+1:=by omega
   by_cases c2:se=0
   ·subst c2;by_cases c3:b+(sl.length:Int)=nx
    ·(simp(disch:=first|decide|omega|(intros;exact aj rfl rfl)|simp only[aa]) only[aH,CX,g1,hlm,q1,q2,q3,eq_false c1,ei,g2',eq_true c3,hgm,zM,go_sem,seval,ai,bg,A.kind,A.xs,aG,A.isN])
     simp[zR,c1,c3]
    ·(simp(disch:=first|decide|omega|(intros;exact aj rfl rfl)|simp only[aa]) only[aH,CX,g1,hlm,q1,q2,q3,eq_false c1,ei,g2',eq_false c3,hgm,zM,go_sem,seval,ai,bg,A.kind,A.xs,aG,A.isN])
     simp[zR,c1,c3]
   ·(simp(disch:=first|decide|omega|(intros;exact aj rfl rfl)|simp only[aa]) only[aH,CX,g1,hlm,q1,q2,q3,eq_false c1,ei,g2',eq_false c2,hgm,zM,go_sem,seval,ai,bg,A.kind,A.xs,aG,A.isN])
    simp[zR,c1,c2]
 ·rw[if_pos c];apply ah Lv rfl;(simp(disch:=first|decide|omega|(intros;exact aj rfl rfl)|simp only[aa]) only[aH,CX,g1,hlm,q1,q2,eq_false c,hgm,go_sem,seval,ai,bg,A.kind,A.xs,aG,A.isN])
  simp[zR]
theorem A2 {k u:Nat} (d:Dsk) (hd:okN k u d) (hk:k<=700000) (hu:u<=1000000) (m:Man) (hm:manB m=true) (rows:Rows) (i:Nat) (hi:i<m.segs.length) :
  az call 57 [.one (.p 0 0),vi i] [.cells (iB d m .ns (.m 1)),.mp rows] =
   if(aB d.files (fileN (m.segs[i]))).2≠0 then some (vb false,[.cells (iB d m .ns (.m 1)),.mp (dD rows (fileN m.segs[i]) true)])
   else some (vb (kh d m i m.segs[i]),[.cells (iB d m (.sl 3 3 0 1) (.m 1)),.mp (dD rows (fileN m.segs[i]) true),.arr 3 [(cX d m.segs[i]).1.enc] 0,.arr 3 [(cX d m.segs[i]).1.enc] 0]):=by
 have p:=ya d hd hk hu m hm rows i hi;by_cases c:(aB d.files (fileN (m.segs[i]))).2=0
 ·rw[if_neg (by simp[c])] at p ⊢
  exact aP (ids:=[0,1]) rfl rfl rfl p rfl
 ·rw[if_pos c] at p ⊢;exact aP (ids:=[0,1]) rfl rfl rfl p rfl
theorem B5 {k u:Nat} (d:Dsk) (hd:okN k u d) (hk:k<=700000) (hu:u<=1000000) (m:Man) (hm:manB m=true) (rows:Rows) (i:Nat) (hi:i<m.segs.length) (gs:List Seg) (hgl:gs.length<=64) :
  az call 57 [.one (.p 0 0),vi i] [.cells (iB d m (.sl 1 3 0 gs.length) (.m 2)),.arr 3 (gs.map Seg.enc) 0,.mp rows] =
   if(aB d.files (fileN (m.segs[i]))).2≠0 then some (vb false,[.cells (iB d m (.sl 1 3 0 gs.length) (.m 2)),.arr 3 (gs.map Seg.enc) 0,.mp (dD rows (fileN m.segs[i]) true)])
   else some (vb (kh d m i m.segs[i]),[.cells (iB d m (.sl 4 3 0 (gs.length+1)) (.m 2)),.dead,.mp (dD rows (fileN m.segs[i]) true),.arr 3 [(cX d m.segs[i]).1.enc] 0,.arr 3 (gs.map Seg.enc++[(cX d m.segs[i]).1.enc]) 0]):=by
 have p:=xZ d hd hk hu m hm rows i hi gs hgl;by_cases c:(aB d.files (fileN (m.segs[i]))).2=0
 ·rw[if_neg (by simp[c])] at p ⊢
  exact aP (ids:=[0,1,2]) rfl rfl rfl p rfl
 ·rw[if_pos c] at p ⊢;exact aP (ids:=[0,1,2]) rfl rfl rfl p rfl
end Go.Proofs.YtghfhomfppbooaaGreat
