import Derived.Test.YtgoifbjgmgbihaaGreatXZ23Tab
import Derived.Test.YtgoifbjgmgbihaaGreatVid
set_option linter.unusedSimpArgs false
set_option linter.unusedVariables false
set_option maxRecDepth 20000
set_option maxHeartbeats 16000000
namespace Go.Proofs.YtgoifbjgmgbihaaGreat
open Go.Vi
theorem AT (sum:iC) (s:List UInt8) (hs:s.length<=9223372036854775807):call 53 [vk .u32 ((sum.toNat:Nat):Int),vs s] []=some (vk .u32 (((cA sum s).toNat:Nat):Int),[]):=by
 apply ah SY rfl;(simp(disch:=first|decide|omega|(intros;exact aj rfl rfl)|simp only[aa]) only[RP,↓jn,go_sem,seval,ak])
 refine iF (σ:=Nat) (fun k=>s.length-k) (fun k=>k<=s.length) (fun k=>[vs s,vk .u32 ((((s.take k).foldl nW (~~~sum)).toNat:Nat):Int),vi k]) (fun _=>(vk .u32 (((cA sum s).toNat:Nat):Int),[])) (fun _=>by simp only[go_sem,seval]) ?_ 0 (zP _) _ (by simp[go_sem,seval])
 intro k hk R hR;rcases Nat.lt_or_ge k s.length with h|h
 ·(simp(disch:=first|decide|omega|(intros;exact aj rfl rfl)|simp only[aa]) only[F7,↓jn,qR s k h,sf,go_sem,seval,ak])
  have e1:(s.take (k+1)).foldl nW (~~~sum)=nW ((s.take k).foldl nW (~~~sum)) s[k]:=by rw[jI s k h,List.foldl_append];rfl
  generalize (s.take k).foldl nW (~~~sum)=x at *;refine iF (σ:=Nat) (fun j=>8-j) (fun j=>j<=8) (fun j=>[vs s,vk .u32 (((eO j (x ^^^ BitVec.ofNat 32 s[k].toNat)).toNat:Nat):Int),vi k,vi j]) (fun _=>(vk .u32 (((cA sum s).toNat:Nat):Int),[])) (fun _=>by simp only[go_sem,seval]) ?_ 0 (zP _) _ (by simp[eO,go_sem,seval])
  intro j hj R2 hR2;rcases Nat.lt_or_ge j 8 with hj8|hj8
  ·have e2:eO (j+1) (x ^^^ BitVec.ofNat 32 s[k].toNat)=ki (eO j (x ^^^ BitVec.ofNat 32 s[k].toNat)):=oh j 1 _;generalize eO j (x ^^^ BitVec.ofNat 32 s[k].toNat)=y at *;cases hb:y.getLsbD 0 with
   | true =>
    have e3:ki y=(y >>> 1) ^^^ crcP:=by unfold ki;rw[hb];rfl
    (simp(disch:=first|decide|omega|(intros;exact aj rfl rfl)|simp only[aa]) only[xj,↓jn,hb,go_sem,seval,ak])
    exact hR2 (j+1) (by omega) (by omega) _ (by simp[e2,e3,go_sem,seval])
   | false =>
    have e3:ki y=y >>> 1:=by unfold ki;rw[hb];rfl
    (simp(disch:=first|decide|omega|(intros;exact aj rfl rfl)|simp only[aa]) only[xj,↓jn,hb,go_sem,seval,ak])
    exact hR2 (j+1) (by omega) (by omega) _ (by simp[e2,e3,go_sem,seval])
  ·have:j=8:=by omega
   subst this;(simp(disch:=first|decide|omega|(intros;exact aj rfl rfl)|simp only[aa]) only[xj,go_sem,seval,ak])
   exact hR (k+1) (by omega) (by omega) _ (by simp[e1,nW,go_sem,seval])
 ·(simp(disch:=first|decide|omega|(intros;exact aj rfl rfl)|simp only[aa]) only[F7,↓jn,go_sem,seval,ak])
  rw[zL h];rfl
theorem rY (s:List UInt8) (hs:s.length<=9223372036854775807):call 30 [vs s] []=some (vk .u32 (((cA 0#32 s).toNat:Nat):Int),[]):=by
 apply ah SQ rfl;have h:call 53 [vk .u32 0,vs s] []=some (vk .u32 (((cA 0#32 s).toNat:Nat):Int),[]):=AT 0#32 s hs;(simp(disch:=first|decide|omega|(intros;exact aj rfl rfl)|simp only[aa]) only[RF,h,go_sem,seval,ak])
theorem pz (x:iC):call 162 [vk .u32 ((x.toNat:Nat):Int)] []=some (vs (jb x),[]):=by
 apply ah PE rfl;(simp(disch:=first|decide|omega|(intros;exact aj rfl rfl)|simp only[aa]) only[Ow,↓jn,iz,jz,fT,rL,jb,List.replicate,go_sem,seval,ak])
theorem oi (x:iC):call 76 [vk .u32 ((x.toNat:Nat):Int)] []=some (vs (jb x),[]):=by
 apply ah SW rfl;(simp(disch:=first|decide|omega|(intros;exact aj rfl rfl)|simp only[aa]) only[RU,↓jn,iz,jz,fT,rL,jb,List.replicate,go_sem,seval,ak])
theorem y0:call 120 [] []=some (.agg tabW,[]):=by
 apply ah QS rfl;(simp(disch:=first|decide|omega|(intros;exact aj rfl rfl)|simp only[aa]) only[M2,go_sem,seval,ak])
 refine lT (σ:=Nat) (fun k=>16-k) (fun k=>k<=16) (fun k=>[.one (.p 0 0),.one (.p 1 0),vi k]) (fun k=>[.cells (ij 0),.cells (ij k)]) (fun _=>(V.agg tabW,([]:Hp))) ?_ 0 (zP _) _ _ ?_
 ·intro k hk R hR;rcases Nat.lt_or_ge k 16 with h|h
  ·(simp(disch:=first|decide|omega|(intros;exact aj rfl rfl)|simp only[aa]) only[yN,↓jn,go_sem,seval,ak])
   have e0:k % 4294967296=k:=Nat.mod_eq_of_lt (by omega)
   refine lT (σ:=Nat) (fun j=>4-j) (fun j=>j<=4) (fun j=>[.one (.p 0 0),.one (.p 1 0),vi k,vk .u32 (((eO j (BitVec.ofNat 32 k)).toNat:Nat):Int),vi k,vi j]) (fun _=>[.cells (ij 0),.cells (ij k)]) (fun _=>(V.agg tabW,([]:Hp))) ?_ 0 (zP _) _ _ ?_
   ·intro j hj R2 hR2;rcases Nat.lt_or_ge j 4 with hj4|hj4
    ·have e2:eO (j+1) (BitVec.ofNat 32 k)=ki (eO j (BitVec.ofNat 32 k)):=oh j 1 _;generalize eO j (BitVec.ofNat 32 k)=y at *;(simp(disch:=first|decide|omega|(intros;exact aj rfl rfl)|simp only[aa]) only[vI,↓jn,↓P1,↓CA,<- ma,go_sem,seval,ak])
     exact hR2 (j+1) (by omega) (by omega) _ _ (at_head2 (by decide) (by simp only[List.map_cons,List.map_nil,go_sem,seval];exact rfl) (by simp[aK,aH,aC,aQ,ay,V.ren,L.ren,Box.ren,V.refs,L.refs,Box.refs,e2,gx,iH]) (by simp[aK,aH,aC,aQ,ay,V.ren,L.ren,Box.ren,V.refs,L.refs,Box.refs,e2,gx,iH]))
    ·have:j=4:=by omega
     subst this;(simp(disch:=first|decide|omega|(intros;exact aj rfl rfl)|simp only[aa]) only[vI,↓jn,lW,E1 k h,go_sem,seval,ak])
     exact hR (k+1) (by omega) (by omega) _ _ (at_head2 (by decide) (by simp only[List.map_cons,List.map_nil,go_sem,seval];exact rfl) (by simp[aK,aH,aC,aQ,ay,V.ren,L.ren,Box.ren,V.refs,L.refs,Box.refs,gx,iH]) (by simp[aK,aH,aC,aQ,ay,V.ren,L.ren,Box.ren,V.refs,L.refs,Box.refs,gx,iH]))
   ·exact(at_head2 (by decide) (by simp only[List.map_cons,List.map_nil,go_sem,seval];exact rfl) (by simp[aK,aH,aC,aQ,ay,V.ren,L.ren,Box.ren,V.refs,L.refs,Box.refs,eO,gx,iH,e0]) (by simp[aK,aH,aC,aQ,ay,V.ren,L.ren,Box.ren,V.refs,L.refs,Box.refs,eO,gx,iH,e0]))
  ·have:k=16:=by omega
   subst this;have ed:(ij 0).drop 16=[]:=zC (by rw[lW];exact Nat.le_refl _)
   have et:tabW.take 16=tabW:=zL (by rw[rF];exact Nat.le_refl _)
   (simp(disch:=first|decide|omega|(intros;exact aj rfl rfl)|simp only[aa]) only[yN,↓jn,vq,rF,lW,ed,et,IQ,tabW_pure,go_sem,seval,ak])
 ·exact(at_head2 (by decide) (by simp only[List.map_cons,List.map_nil,go_sem,seval];exact rfl) (by simp[aK,aH,aC,aQ,ay,V.ren,L.ren,Box.ren,V.refs,L.refs,Box.refs,G0]) (by simp[aK,aH,aC,aQ,ay,V.ren,L.ren,Box.ren,V.refs,L.refs,Box.refs,G0]))
theorem I0 (sum:iC) (s:List UInt8) (hs:s.length<=9223372036854775807):call 87 [vk .u32 ((sum.toNat:Nat):Int),vs s] []=some (vk .u32 (((cA sum s).toNat:Nat):Int),[]):=by
 apply ah SO rfl;have e16:tabW.length=16:=rF;(simp(disch:=first|decide|omega|(intros;exact aj rfl rfl)|simp only[aa]) only[RG,↓jn,y0,e16,List.append_nil,go_sem,seval,ak])
 refine lT (σ:=Nat) (fun k=>s.length-k) (fun k=>k<=s.length) (fun k=>[vs s,.one (.p 0 0),vk .u32 ((((s.take k).foldl nW (~~~sum)).toNat:Nat):Int),vi s.length,vi k]) (fun _=>[.cells tabW]) (fun _=>(vk .u32 (((cA sum s).toNat:Nat):Int),([]:Hp))) ?_ 0 (zP _) _ _ (at_head2 (by decide) (by simp only[List.map_cons,List.map_nil,go_sem,seval];exact rfl) (by simp[aK,aH,aC,aQ,ay,V.ren,L.ren,Box.ren,V.refs,L.refs,Box.refs,mE,nQ]) (by simp[aK,aH,aC,aQ,ay,V.ren,L.ren,Box.ren,V.refs,L.refs,Box.refs,mE,nQ]))
 intro k hk R hR;rcases Nat.lt_or_ge k s.length with h|h
 ·have e1:(s.take (k+1)).foldl nW (~~~sum)=nW ((s.take k).foldl nW (~~~sum)) s[k]:=by rw[jI s k h,List.foldl_append];rfl
  rw[JU] at e1;generalize (s.take k).foldl nW (~~~sum)=x at *;have l1:=xb (x ^^^ BitVec.ofNat 32 s[k].toNat);have l2:=xb (((x ^^^ BitVec.ofNat 32 s[k].toNat) >>> 4) ^^^ eO 4 ((x ^^^ BitVec.ofNat 32 s[k].toNat) &&& 15#32));(simp(disch:=first|decide|omega|(intros;exact aj rfl rfl)|simp only[aa]) only[E2,↓jn,qR s k h,sf,J3,go_sem,seval,ak])
  exact hR (k+1) (by omega) (by omega) _ _ (at_head2 (by decide) (by simp only[List.map_cons,List.map_nil,go_sem,seval];exact rfl) (by simp[aK,aH,aC,aQ,ay,V.ren,L.ren,Box.ren,V.refs,L.refs,Box.refs,mE,nQ,e1]) (by simp[aK,aH,aC,aQ,ay,V.ren,L.ren,Box.ren,V.refs,L.refs,Box.refs,mE,nQ,e1]))
 ·(simp(disch:=first|decide|omega|(intros;exact aj rfl rfl)|simp only[aa]) only[E2,↓jn,go_sem,seval,ak])
  rw[zL h];rfl
def tC (l:List (List UInt8)):iC:=l.foldl cA 0#32
def Ig (s:List UInt8):List D:=[.s s]
theorem Ff (s:List UInt8):(Ig s).length=1:=Eq.trans rfl rfl
theorem J6 (s:List UInt8):(Ig s)[0]?=some (.s s):=Eq.trans rfl rfl
theorem w9 (l:List (List UInt8)) (hl:l.length<=9223372036854775807) (hs:∀ s∈l,s.length<=9223372036854775807):call 64 [vl (l.map Ig)] []=some (vk .u32 (((tC l).toNat:Nat):Int),[]):=by
 apply ah SB rfl;(simp(disch:=first|decide|omega|(intros;exact aj rfl rfl)|simp only[aa]) only[RK,go_sem,seval,ak])
 refine iF (σ:=Nat) (fun k=>l.length-k) (fun k=>k<=l.length) (fun k=>[vk .u32 ((((l.take k).foldl cA 0#32).toNat:Nat):Int),vl (l.map Ig),vi l.length,vi k]) (fun _=>(vk .u32 (((tC l).toNat:Nat):Int),[])) (fun _=>by simp only[go_sem,seval]) ?_ 0 (zP _) _ (by simp[go_sem,seval])
 intro k hk R hR;rcases Nat.lt_or_ge k l.length with h|h
 ·have e1:(l.take (k+1)).foldl cA 0#32=cA ((l.take k).foldl cA 0#32) l[k]:=by rw[jI l k h,List.foldl_append];rfl
  have ho:=I0 ((l.take k).foldl cA 0#32) l[k] (hs _ (zN h));(simp(disch:=first|decide|omega|(intros;exact aj rfl rfl)|simp only[aa]) only[Ho,Ff,J6,ho,go_sem,seval,ak])
  exact hR (k+1) (by omega) (by omega) _ (by simp[e1,go_sem,seval])
 ·(simp(disch:=first|decide|omega|(intros;exact aj rfl rfl)|simp only[aa]) only[Ho,go_sem,seval,ak])
  rw[zL h];rfl
theorem u5 (x:iC) (a b:List UInt8):cA x (a++b)=cA (cA x a) b:=by
 simp only[cA,List.foldl_append,BitVec.not_not]
theorem H0 (a b:List UInt8):tC [a,b]=cA 0#32 (a++b):=by simp only[tC,List.foldl_cons,List.foldl_nil,u5]
theorem Av (n:Nat) (hn:n<18446744073709551616):call 160 [vk .u64 ((n:Nat):Int)] []=some (vi (blen n),[]):=by
 apply ah QA rfl;have last:∀ m:Nat,m<256->IntKind.u8.wrap ((m:Nat):Int)=((m:Nat):Int):=fun m h=>qL (by omega)
 have tab:∀ m:Nat,m<256->IntKind.i64.wrap (((UInt8.ofNat (blen m)).toNat:Nat):Int)=((blen m:Nat):Int):=fun m h=>by
  rw[A8 h];have:=(fR m 8).2 h;exact lD (by omega)
 have b8:∀ m:Nat,m<256->blen m<=8:=fun m h=>(fR m 8).2 h
 by_cases c0:4294967296<=n
 ·have e0:=fo (n) 32 c0;simp only[Nat.reducePow] at e0;by_cases c1:65536<=n / 4294967296
  ·have e1:=fo (n / 4294967296) 16 c1;simp only[Nat.reducePow] at e1;by_cases c2:256<=n / 4294967296 / 65536
   ·have e2:=fo (n / 4294967296 / 65536) 8 c2;simp only[Nat.reducePow] at e2;have hm:n / 4294967296 / 65536 / 256<256:=by omega
    have:=b8 _ hm;have e:((blen n:Nat):Int)=32+16+8+((blen (n / 4294967296 / 65536 / 256):Nat):Int):=by omega
    rw[e];(simp(disch:=first|decide|omega|(intros;exact aj rfl rfl)|simp only[aa]) only[vX,↓gK,↓gQ,↓jh,last _ hm,gH _ hm,tab _ hm,Int.zero_add,go_sem,seval,ak])
   ·skip
    have hm:n / 4294967296 / 65536<256:=by omega
    have:=b8 _ hm;have e:((blen n:Nat):Int)=32+16+((blen (n / 4294967296 / 65536):Nat):Int):=by omega
    rw[e];(simp(disch:=first|decide|omega|(intros;exact aj rfl rfl)|simp only[aa]) only[vX,↓gK,↓gQ,↓jh,last _ hm,gH _ hm,tab _ hm,Int.zero_add,go_sem,seval,ak])
  ·skip
   by_cases c2:256<=n / 4294967296
   ·have e2:=fo (n / 4294967296) 8 c2;simp only[Nat.reducePow] at e2;have hm:n / 4294967296 / 256<256:=by omega
    have:=b8 _ hm;have e:((blen n:Nat):Int)=32+8+((blen (n / 4294967296 / 256):Nat):Int):=by omega
    rw[e];(simp(disch:=first|decide|omega|(intros;exact aj rfl rfl)|simp only[aa]) only[vX,↓gK,↓gQ,↓jh,last _ hm,gH _ hm,tab _ hm,Int.zero_add,go_sem,seval,ak])
   ·skip
    have hm:n / 4294967296<256:=by omega
    have:=b8 _ hm;have e:((blen n:Nat):Int)=32+((blen (n / 4294967296):Nat):Int):=by omega
    rw[e];(simp(disch:=first|decide|omega|(intros;exact aj rfl rfl)|simp only[aa]) only[vX,↓gK,↓gQ,↓jh,last _ hm,gH _ hm,tab _ hm,Int.zero_add,go_sem,seval,ak])
 ·skip
  by_cases c1:65536<=n
  ·have e1:=fo (n) 16 c1;simp only[Nat.reducePow] at e1;by_cases c2:256<=n / 65536
   ·have e2:=fo (n / 65536) 8 c2;simp only[Nat.reducePow] at e2;have hm:n / 65536 / 256<256:=by omega
    have:=b8 _ hm;have e:((blen n:Nat):Int)=16+8+((blen (n / 65536 / 256):Nat):Int):=by omega
    rw[e];(simp(disch:=first|decide|omega|(intros;exact aj rfl rfl)|simp only[aa]) only[vX,↓gK,↓gQ,↓jh,last _ hm,gH _ hm,tab _ hm,Int.zero_add,go_sem,seval,ak])
   ·skip
    have hm:n / 65536<256:=by omega
    have:=b8 _ hm;have e:((blen n:Nat):Int)=16+((blen (n / 65536):Nat):Int):=by omega
    rw[e];(simp(disch:=first|decide|omega|(intros;exact aj rfl rfl)|simp only[aa]) only[vX,↓gK,↓gQ,↓jh,last _ hm,gH _ hm,tab _ hm,Int.zero_add,go_sem,seval,ak])
  ·skip
   by_cases c2:256<=n
   ·have e2:=fo (n) 8 c2;simp only[Nat.reducePow] at e2;have hm:n / 256<256:=by omega
    have:=b8 _ hm;have e:((blen n:Nat):Int)=8+((blen (n / 256):Nat):Int):=by omega
    rw[e];(simp(disch:=first|decide|omega|(intros;exact aj rfl rfl)|simp only[aa]) only[vX,↓gK,↓gQ,↓jh,last _ hm,gH _ hm,tab _ hm,Int.zero_add,go_sem,seval,ak])
   ·skip
    have hm:n<256:=by omega
    have:=b8 _ hm;have e:((blen n:Nat):Int)=((blen (n):Nat):Int):=by omega
    rw[e];(simp(disch:=first|decide|omega|(intros;exact aj rfl rfl)|simp only[aa]) only[vX,↓gK,↓gQ,↓jh,last _ hm,gH _ hm,tab _ hm,Int.zero_add,go_sem,seval,ak])
theorem rD (n:Nat) (hn:n<9223372036854775808):call 131 [vi n] []=some (vi (nd n),[]):=by
 apply ah Q0 rfl;have h64:=Av n (by omega)
 have hb:blen n<=63:=(fR n 63).2 (by omega)
 have hq:(((blen n:Nat):Int)+6).tdiv 7=(((blen n+6) / 7:Nat):Int):=by rw[Int.tdiv_eq_ediv_of_nonneg (by omega)];omega
 have hm:=JP n;by_cases c:1<(blen n+6) / 7
 ·have e:nd n=(blen n+6) / 7:=by omega
  rw[e];(simp(disch:=first|decide|omega|(intros;exact aj rfl rfl)|simp only[aa]) only[Lk,h64,hq,go_sem,seval,ak])
 ·have e:nd n=1:=by omega
  have c':¬ (((blen n+6) / 7:Nat):Int) > 1:=by omega
  rw[e];(simp(disch:=first|decide|omega|(intros;exact aj rfl rfl)|simp only[aa]) only[Lk,h64,hq,if_neg c',go_sem,seval,ak])
  try rfl
theorem oU (n:Nat) (hn:n<9223372036854775808):call 136 [vi n] []=some (vs (aq n),[]):=by
 apply ah PP rfl;have hl:=rD n hn;have h9:=du hn;obtain⟨m,hm⟩:∃ m,nd n=m+1:=⟨nd n-1,by have:=fA n;omega⟩
 have hlast:=Ef n m hm;have hlt:n / 128 ^ m<128:=by
  have:=((eZ m n).1 hm).1;rw[Nat.div_lt_iff_lt_mul (Nat.pow_pos (by decide))]
  rwa [Nat.pow_succ,Nat.mul_comm] at this
 rw[hm] at hl h9;(simp(disch:=first|decide|omega|(intros;exact aj rfl rfl)|simp only[aa]) only[MZ,hl,Int.mul_one,go_sem,seval,ak])
 refine lT (σ:=Nat) (fun k=>m+1-k) (fun k=>k<=m+1) (fun k=>[vi n,.one (.sl 0 1 0 (m+1)),vi ((m+1:Nat):Int),vi k]) (fun k=>[.arr 1 (putR n (m+1) k) 0]) (fun _=>(vs (aq n),([]:Hp))) ?_ 0 (zP _) _ _ (at_head2 (by decide) (by simp only[List.map_cons,List.map_nil,go_sem,seval];exact rfl) (by simp[aK,aH,aC,aQ,ay,V.ren,L.ren,Box.ren,V.refs,L.refs,Box.refs,tZ]) (by simp[aK,aH,aC,aQ,ay,V.ren,L.ren,Box.ren,V.refs,L.refs,Box.refs,tZ]))
 intro k hk R hR;rcases Nat.lt_or_ge k (m+1) with h|h
 ·have hsh:cV .shr (.i .i64 ((n:Nat):Int)) (.i .u64 (7*((k:Nat):Int)))=some (.i .i64 ((n / 2 ^ (7*k):Nat):Int)):=qW .i64 .u64 n (7*k) (by show 7*k<=64;omega)
  have e2:(2:Nat) ^ (7*k)=128 ^ k:=by rw[Nat.pow_mul]
  have hg:=jX n (m+1) k k h;have hs:=Et n (m+1) k h;rw[e2] at hsh;(simp(disch:=first|decide|omega|(intros;exact aj rfl rfl)|simp only[aa]) only[Ab,↓hsh,iz,↓SC,hg,hs,go_sem,seval,ak])
  exact hR (k+1) (by omega) (by omega) _ _ (at_head2 (by decide) (by simp only[List.map_cons,List.map_nil,go_sem,seval];exact rfl) (by simp[aK,aH,aC,aQ,ay,V.ren,L.ren,Box.ren,V.refs,L.refs,Box.refs,true_and]) (by simp[aK,aH,aC,aQ,ay,V.ren,L.ren,Box.ren,V.refs,L.refs,Box.refs,true_and]))
 ·have hk':k=m+1:=by omega
  subst hk';have hg:=jX n (m+1) (m+1) m (by omega)
  have hd:wN n (m+1) m=128+n / 128 ^ m:=by unfold wN;rw[if_pos (by omega),Nat.mod_eq_of_lt hlt]
  rw[hd] at hg;generalize n / 128 ^ m=q at hlast hlt hg;have ha:=Nz (128+q) (by omega)
  have hmod:(128+q) % 128=q:=by omega
  rw[hmod] at ha;have hpl:=jZ n (m+1) (m+1);have hw:IntKind.i64.wrap (((m+1:Nat):Int)-1)=((m:Nat):Int):=by rw[lD (by omega)];omega
  have hel:(aq n).length=m+1:=hm;have htk:(aw (aq n)).take (m+1)=aw (aq n):=zL (by rw[dh,hel];exact Nat.le_refl _)
  (simp(disch:=first|decide|omega|(intros;exact aj rfl rfl)|simp only[aa]) only[Ab,hw,hg,↓ha,hlast,hpl,dh,hel,htk,kv,go_sem,seval,ak])
theorem jA (n:Nat) (hn:n<9223372036854775808):call 66 [vi n] []=some (vs (aq n),[]):=by
 apply ah S6 rfl;(simp(disch:=first|decide|omega|(intros;exact aj rfl rfl)|simp only[aa]) only[RJ,go_sem,seval,ak])
 refine lT (σ:=Nat × List UInt8) (fun s=>s.1) (fun s=>s.1<9223372036854775808∧s.2++aq s.1=aq n∧s.2.length+nd s.1<=9) (fun s=>[vi s.1,vs s.2]) (fun _=>[]) (fun _=>(vs (aq n),([]:Hp))) ?_ (n,[]) ⟨hn,rfl,by simpa using du hn⟩ _ _ (at_head2 (by decide) (by simp only[List.map_cons,List.map_nil,go_sem,seval];exact rfl) (by simp[aK,aH,aC,aQ,ay,V.ren,L.ren,Box.ren,V.refs,L.refs,Box.refs,true_and]) (by simp[aK,aH,aC,aQ,ay,V.ren,L.ren,Box.ren,V.refs,L.refs,Box.refs,true_and]))
 rintro⟨k,l⟩ ⟨hk,he,hl⟩ R hR;simp only at hk he hl;rcases Nat.lt_or_ge k 128 with h|h
 ·rw[iD h] at he;have hnd:=fA k;(simp(disch:=first|decide|omega|(intros;exact aj rfl rfl)|simp only[aa]) only[EX,iz,jz,fT,rL,go_sem,seval,ak])
  rw[he]
 ·have hq:((k:Nat):Int).tdiv 128=((k / 128:Nat):Int):=by rw[Int.tdiv_eq_ediv_of_nonneg (by omega)];omega
  have hr:((k:Nat):Int).tmod 128=((k % 128:Nat):Int):=by rw[Int.tmod_eq_emod_of_nonneg (by omega)];omega
  rw[oJ (by omega)] at he
  rw[na (by omega)] at hl
  have hw:IntKind.u8.wrap (128+((k % 128:Nat):Int))=((128+k % 128:Nat):Int):=by rw[qL (by omega)];omega
  have hb:UInt8.ofNat (((128+k % 128:Nat):Int)).toNat=UInt8.ofNat (128+k % 128):=rfl;(simp(disch:=first|decide|omega|(intros;exact aj rfl rfl)|simp only[aa]) only[EX,hq,hr,hw,jz,fT,go_sem,seval,ak])
  exact hR (k / 128,l++[UInt8.ofNat (128+k % 128)]) (by simp only[];omega) ⟨by simp only[];omega,by simp only[];rw[List.append_assoc];exact he,by simp only[zA,List.length_cons,List.length_nil];omega⟩ _ _ (at_head2 (by decide) (by simp only[List.map_cons,List.map_nil,go_sem,seval];exact rfl) (by simp[aK,aH,aC,aQ,ay,V.ren,L.ren,Box.ren,V.refs,L.refs,Box.refs,true_and]) (by simp[aK,aH,aC,aQ,ay,V.ren,L.ren,Box.ren,V.refs,L.refs,Box.refs,true_and]))
def sw (a:Nat):Option (Nat × Nat)->V
 | some (n,k)=>.tup [(false,[.d (.i .i64 n)]),(false,[.d (.i .i64 ((a+k:Nat):Int))]),(false,[.d (.b true)])]
 | none=>.tup [(false,[.d (.i .i64 0)]),(false,[.d (.i .i64 0)]),(false,[.d (.b false)])]
theorem Pb (c i:Nat) (hc:c<128) (hi:i<=8):cV .shl (.i .i64 ((c:Nat):Int)) (.i .u64 (7*((i:Nat):Int)))=some (.i .i64 ((c*2 ^ (7*i):Nat):Int))∧c*2 ^ (7*i)+2 ^ (7*i)<=9223372036854775808:=by
 have h2:2 ^ (7*i)<=2 ^ 56:=Nat.pow_le_pow_right (by decide) (by omega)
 have h3:(c+1)*2 ^ (7*i)<=128*2 ^ 56:=Nat.mul_le_mul (by omega) h2
 have h4:(128:Nat)*2 ^ 56=9223372036854775808:=by decide
 have h5:(c+1)*2 ^ (7*i)=c*2 ^ (7*i)+2 ^ (7*i):=by rw[Nat.add_mul,Nat.one_mul]
 refine⟨?_,by omega⟩
 have hp:0<2 ^ (7*i):=Nat.pow_pos (by decide)
 simp only[cV];rw[if_neg (by omega)]
 have e1:(7*((i:Nat):Int)).toNat=7*i:=by omega
 have e2:min (7*i) IntKind.i64.bits=7*i:=Nat.min_eq_left (by show 7*i<=64;omega)
 rw[e1,e2];have e3:((c:Nat):Int)*2 ^ (7*i)=((c*2 ^ (7*i):Nat):Int):=by simp
 rw[e3,lD (by omega)]
theorem Ji (i n:Nat):ny [] i n=none:=rfl
theorem yd (c:UInt8) (r:List UInt8) (i n:Nat):ny (c::r) i n=if 9<=i then none else if 128<=c.toNat then ny r (i+1) (n+c.toNat % 128*128 ^ i) else if c.toNat=0∧0<i then none else some (n+c.toNat*128 ^ i,i+1):=rfl
theorem me (s:List UInt8) (a:Nat) (ha:a<9223372036854775808) (hs:s.length<=9223372036854775807):call 155 [vs s,vi a] []=some (sw a (ny (s.drop a) 0 0),[]):=by
 apply ah PU rfl;(simp(disch:=first|decide|omega|(intros;exact aj rfl rfl)|simp only[aa]) only[Nm,go_sem,seval,ak])
 refine iF (σ:=Nat × Nat) (fun t=>9-t.1) (fun t=>t.1<=9∧t.2<128 ^ t.1) (fun t=>[vs s,vi a,vi t.2,vi t.1]) (fun t=>(sw a (ny (s.drop (a+t.1)) t.1 t.2),([]:Hp))) (fun _=>by simp only[go_sem,seval]) ?_ (0,0) ⟨by decide,by decide⟩ _ (by simp[go_sem,seval])
 rintro⟨i,n⟩ ⟨hi,hn⟩ R hR;simp only at hi hn;rcases Nat.lt_or_ge (a+i) s.length with h|h
 ·rcases Nat.lt_or_ge i 9 with h9|h9
  ·simp only[zD h,yd];rw[if_neg (by omega)]
   obtain⟨c,hc⟩:∃ c,c=s[a+i]:=⟨_,rfl⟩;rw[<- hc];have hg:s[a+i]?=some c:=by rw[hc];simp[h]
   have hc8:=c.toNat_lt;have hm:c.toNat % 128<128:=Nat.mod_lt _ (by decide)
   obtain⟨hsh,hbd⟩:=Pb (c.toNat % 128) i hm (by omega)
   have hp:(2:Nat) ^ (7*i)=128 ^ i:=by rw[Nat.pow_mul]
   have hand:=Nz c.toNat (by omega)
   have hor:=Qt n (c.toNat % 128) (7*i) (by rw[hp];exact hn) (by rw[hp] at hbd ⊢;omega)
   rw[hp] at hsh hor hbd;have hidx:(((a:Nat):Int)+((i:Nat):Int)).toNat=a+i:=by omega
   have hnat:((a+(i+1):Nat):Int)=(a:Int)+(i:Int)+1:=by omega
   have hnx:n+c.toNat % 128*128 ^ i<128 ^ (i+1):=by
    have:=Nat.mul_le_mul_right (128 ^ i) (by omega:c.toNat % 128+1<=128)
    rw[Nat.pow_succ,Nat.mul_comm (128 ^ i) 128];rw[Nat.add_mul,Nat.one_mul] at this;omega
   rcases Nat.lt_or_ge c.toNat 128 with h1|h1
   ·rw[if_neg (by omega)]
    have hmm:c.toNat % 128=c.toNat:=Nat.mod_eq_of_lt h1;rw[hmm] at hand hsh hor;by_cases h0:c.toNat=0
    ·by_cases hi0:0<i
     ·rw[if_pos ⟨h0,hi0⟩];(simp(disch:=first|decide|omega|(intros;exact aj rfl rfl)|simp only[aa]) only[lN,hidx,hg,↓hand,↓hsh,↓hor,sw,go_sem,seval,ak])
     ·rw[if_neg (by omega)]
      (simp(disch:=first|decide|omega|(intros;exact aj rfl rfl)|simp only[aa]) only[lN,hidx,hg,↓hand,↓hsh,↓hor,hnat,sw,go_sem,seval,ak])
    ·rw[if_neg (by omega)]
     (simp(disch:=first|decide|omega|(intros;exact aj rfl rfl)|simp only[aa]) only[lN,hidx,hg,↓hand,↓hsh,↓hor,hnat,sw,go_sem,seval,ak])
   ·rw[if_pos h1];(simp(disch:=first|decide|omega|(intros;exact aj rfl rfl)|simp only[aa]) only[lN,hidx,hg,↓hand,↓hsh,↓hor,go_sem,seval,ak])
    exact hR (i+1,n+c.toNat % 128*128 ^ i) (by simp only[];omega) ⟨by simp only[];omega,hnx⟩ _ (by simp[go_sem,seval])
  ·have e:ny (s.drop (a+i)) i n=none:=by
    rw[zD h,yd,if_pos h9]
   simp only[e];(simp(disch:=first|decide|omega|(intros;exact aj rfl rfl)|simp only[aa]) only[lN,sw,go_sem,seval,ak])
 ·simp only[zC h,Ji];rcases Nat.lt_or_ge i 9 with h9|h9
  ·(simp(disch:=first|decide|omega|(intros;exact aj rfl rfl)|simp only[aa]) only[lN,sw,go_sem,seval,ak])
  ·(simp(disch:=first|decide|omega|(intros;exact aj rfl rfl)|simp only[aa]) only[lN,sw,go_sem,seval,ak])
theorem pX (n:Int):call 159 [vi n] []=some (vb (decide (1<=n) && decide (n<=65536)),[]):=by
 apply ah PQ rfl;by_cases c:1<=n
 ·(simp(disch:=first|decide|omega|(intros;exact aj rfl rfl)|simp only[aa]) only[KB,c,go_sem,seval,ak])
 ·(simp(disch:=first|decide|omega|(intros;exact aj rfl rfl)|simp only[aa]) only[KB,c,Bool.false_and,go_sem,seval,ak])
theorem Cz (n:Int):call 130 [vi n] []=some (vi (xm n),[]):=by
 apply ah P4 rfl;have hf:=pX n;by_cases c:1<=n∧n<=65536
 ·rw[zT c.1,zT c.2] at hf;obtain⟨k,rfl⟩:∃ k:Nat,n=k:=⟨n.toNat,by omega⟩
  have hl:=rD k (by omega)
  have h9:=du (n:=k) (by omega)
  unfold xm;rw[if_pos c,Int.toNat_natCast];(simp(disch:=first|decide|omega|(intros;exact aj rfl rfl)|simp only[aa]) only[Mj,hf,hl,go_sem,seval,ak])
 ·have hf':(decide (1<=n) && decide (n<=65536))=false:=by rw[Bool.and_eq_false_iff,decide_eq_false_iff_not,decide_eq_false_iff_not];omega
  rw[hf'] at hf;unfold xm;rw[if_neg c];(simp(disch:=first|decide|omega|(intros;exact aj rfl rfl)|simp only[aa]) only[Mj,hf,go_sem,seval,ak])
def xK (b:List UInt8):V:=if 1<=b.length∧b.length<=65536 then .tup [(false,[zS (aY b)]),(false,[zI 0])] else .tup [(false,[.d (.s [])]),(false,[zI 5])]
theorem uC (a b:List UInt8) (ha:a.length<=9223372036854775807) (hb:b.length<=9223372036854775807):call 64 [vl [[.s a],[.s b]]] []=some (vk .u32 (((cA 0#32 (a++b)).toNat:Nat):Int),[]):=by
 have:=w9 [a,b] (by simp) (by intro s hs;simp at hs;rcases hs with rfl|rfl <;> assumption)
 rw[H0] at this;exact this
theorem mN (b:List UInt8) (hb:b.length<=9223372036854775807):call 135 [vs b] []=some (xK b,[]):=by
 apply ah PV rfl;have hf:=pX b.length;unfold xK;by_cases c:1<=b.length∧b.length<=65536
 ·have e1:decide (1<=(b.length:Int))=true:=by simp;omega
  have e2:decide ((b.length:Int)<=65536)=true:=by simp;omega
  rw[e1,e2] at hf;have hp:=oU b.length (by omega)
  have hel:(aq b.length).length<=9:=du (n:=b.length) (by omega)
  have hs:=uC (aq b.length) b (by omega) hb
  have h4:=pz (cA 0#32 (aq b.length++b));have l4:=gG (cA 0#32 (aq b.length++b));rw[if_pos c];(simp(disch:=first|decide|omega|(intros;exact aj rfl rfl)|simp only[aa]) only[Lq,hf,hp,hs,h4,l4,aY,go_sem,seval,ak])
 ·have hf':(decide (1<=(b.length:Int)) && decide ((b.length:Int)<=65536))=false:=by rw[Bool.and_eq_false_iff,decide_eq_false_iff_not,decide_eq_false_iff_not];omega
  rw[hf'] at hf;rw[if_neg c];(simp(disch:=first|decide|omega|(intros;exact aj rfl rfl)|simp only[aa]) only[Lq,hf,go_sem,seval,ak])
theorem j8 (b:List UInt8) (hb:b.length<=9223372036854775807):call 74 [vs b] []=some (xK b,[]):=by
 apply ah R9 rfl;unfold xK;by_cases c:1<=b.length
 ·by_cases c2:b.length<=65536
  ·have hp:=jA b.length (by omega)
   have hel:(aq b.length).length<=9:=du (n:=b.length) (by omega)
   have hs:=rY (aq b.length++b) (by simp;omega)
   have h4:=oi (cA 0#32 (aq b.length++b));have l4:=gG (cA 0#32 (aq b.length++b));rw[if_pos ⟨c,c2⟩];(simp(disch:=first|decide|omega|(intros;exact aj rfl rfl)|simp only[aa]) only[Pq,hp,hs,h4,l4,aY,go_sem,seval,ak])
  ·rw[if_neg (by omega)]
   (simp(disch:=first|decide|omega|(intros;exact aj rfl rfl)|simp only[aa]) only[Pq,go_sem,seval,ak])
 ·rw[if_neg (by omega)]
  (simp(disch:=first|decide|omega|(intros;exact aj rfl rfl)|simp only[aa]) only[Pq,go_sem,seval,ak])
theorem Ee (l:List UInt8) (hl:l.length<=9223372036854775807):call 194 [vs l] []=some (vb (oF l),[]):=by
 apply ah PO rfl;by_cases c:l.length<=8
 ·have e:oF l=(l.drop 0).all fun c=>decide (128<=c.toNat):=by simp[oF,c]
  rw[e];(simp(disch:=first|decide|omega|(intros;exact aj rfl rfl)|simp only[aa]) only[Lm,go_sem,seval,ak])
  refine iF (σ:=Nat) (fun k=>l.length-k) (fun k=>k<=l.length) (fun k=>[vs l,vi l.length,vi k]) (fun k=>(vb ((l.drop k).all fun c=>decide (128<=c.toNat)),([]:Hp))) (fun _=>by simp only[go_sem,seval]) ?_ 0 (zP _) _ (by simp[go_sem,seval])
  intro k hk R hR;rcases Nat.lt_or_ge k l.length with h|h
  ·simp only[zD h,List.all_cons];by_cases c1:128<=l[k].toNat
   ·rw[zT c1,Bool.true_and];(simp(disch:=first|decide|omega|(intros;exact aj rfl rfl)|simp only[aa]) only[wt,qR l k h,go_sem,seval,ak])
    exact hR (k+1) (by first|omega|(simp only[];omega)) (by first|omega|(simp only[];omega)) _ (by simp[go_sem,seval])
   ·rw[zF c1,Bool.false_and];(simp(disch:=first|decide|omega|(intros;exact aj rfl rfl)|simp only[aa]) only[wt,qR l k h,go_sem,seval,ak])
  ·(simp(disch:=first|decide|omega|(intros;exact aj rfl rfl)|simp only[aa]) only[wt,zC h,List.all_nil,go_sem,seval,ak])
 ·have e:oF l=false:=by simp[oF,c]
  rw[e];(simp(disch:=first|decide|omega|(intros;exact aj rfl rfl)|simp only[aa]) only[Lm,go_sem,seval,ak])
def hJ (r:List UInt8 × Nat × Int):V:=.tup [(false,[zS r.1]),(false,[zI ((r.2.1:Nat):Int)]),(false,[zI r.2.2])]
theorem FP (n:Nat):call 159 [vi n] []=some (vb (ol n),[]):=by
 have:=pX n;have e:(decide (1<=(n:Int)) && decide ((n:Int)<=65536))=ol n:=by
  unfold ol;congr 1 <;> (rw[decide_eq_decide];omega)
 rwa [e] at this
theorem Cv (s:List UInt8) (a:Nat) (ha:a<9223372036854775808) (hs:s.length<=4611686018427387904):call 188 [vs s,vi a] []=some (hJ (gT s a),[]):=by
 apply ah Rm rfl;unfold gT;rcases Nat.lt_or_ge a s.length with hal|hal
 ·have ho:=Ee (s.drop a) (by simp;omega)
  cases hop:oF (s.drop a) with
  | true =>
   rw[hop] at ho;rw[if_pos (.inr rfl)];(simp(disch:=first|decide|omega|(intros;exact aj rfl rfl)|simp only[aa]) only[xc,ho,hJ,go_sem,seval,ak])
   try rfl
  | false =>
   rw[hop] at ho;rw[if_neg (by simp;omega)]
   have hrd:=me s a ha (by omega)
   cases hr:ny (s.drop a) 0 0 with
   | none =>
    rw[hr] at hrd;(simp(disch:=first|decide|omega|(intros;exact aj rfl rfl)|simp only[aa]) only[xc,ho,hrd,sw,hJ,go_sem,seval,ak])
    try rfl
   | some q =>
    obtain⟨n,k⟩:=q;rw[hr] at hrd;obtain⟨te,t1,t2,t3⟩:=mM hr;have hft:=FP n;dsimp only
    by_cases hfn:ol n=false
    ·rw[hfn] at hft;rw[if_pos hfn];(simp(disch:=first|decide|omega|(intros;exact aj rfl rfl)|simp only[aa]) only[xc,ho,hrd,sw,hft,hJ,go_sem,seval,ak])
     try rfl
    ·have hfn:ol n=true:=by simpa using hfn
     rw[hfn] at hft;have hn:1<=n∧n<=65536:=by simpa[ol] using hfn
     have e1:((a+k:Nat):Int)+4=((a+k+4:Nat):Int):=rfl;have e3:((a+k+4:Nat):Int)+((n:Nat):Int)=((a+k+4+n:Nat):Int):=rfl;have e4:IntKind.i64.wrap (((a+k+4:Nat):Int)-4)=((a+k:Nat):Int):=by rw[lD (by omega)];omega
     rw[if_neg (by rw[hfn];decide)]
     by_cases hsh:s.length<a+k+4+n
     ·rw[if_pos hsh];(simp(disch:=first|decide|omega|(intros;exact aj rfl rfl)|simp only[aa]) only[xc,ho,hrd,sw,hft,hJ,e1,go_sem,seval,ak])
      try rfl
     ·rw[if_neg hsh];have hcs:=uC (aq n) ((s.take (a+k+4+n)).drop (a+k+4)) (by have:(aq n).length<=9:=du (n:=n) (by omega);omega) (by simp;omega)
      have h4:=pz (cA 0#32 (aq n++(s.take (a+k+4+n)).drop (a+k+4)));by_cases hq:jb (cA 0#32 (aq n++(s.take (a+k+4+n)).drop (a+k+4)))=(s.take (a+k+4)).drop (a+k)
      ·have hb:(jb (cA 0#32 (aq n++(s.take (a+k+4+n)).drop (a+k+4))) == (s.take (a+k+4)).drop (a+k))=true:=by rw[beq_iff_eq];exact hq
       rw[if_pos hq];(simp(disch:=first|decide|omega|(intros;exact aj rfl rfl)|simp only[aa]) only[xc,ho,hrd,sw,hft,hJ,e1,e3,e4,te,hcs,h4,hb,go_sem,seval,ak])
      ·have hb:(jb (cA 0#32 (aq n++(s.take (a+k+4+n)).drop (a+k+4))) == (s.take (a+k+4)).drop (a+k))=false:=by rw[beq_eq_false_iff_ne];exact hq
       rw[if_neg hq];(simp(disch:=first|decide|omega|(intros;exact aj rfl rfl)|simp only[aa]) only[xc,ho,hrd,sw,hft,hJ,e1,e3,e4,te,hcs,h4,hb,go_sem,seval,ak])
       try rfl
 ·rw[if_pos (.inl hal)];(simp(disch:=first|decide|omega|(intros;exact aj rfl rfl)|simp only[aa]) only[xc,hJ,go_sem,seval,ak])
  try rfl
structure Rec where
 at_:Int
 ti:Int
 da:List UInt8
 deriving DecidableEq
def Rec.enc (e:Rec):List D:=[.i .i64 e.at_,.i .i64 e.ti,.s e.da]
theorem Rec.len (e:Rec):e.enc.length=3:=Eq.trans rfl rfl
theorem Rec.tk (e:Rec):e.enc.take 3=e.enc:=Eq.trans rfl rfl
theorem Rec.tkL (e:Rec):(e.enc.map L.d).take 3=e.enc.map L.d:=Eq.trans rfl rfl
theorem Rec.dat (e:Rec):df (e.enc.map L.d)=some (e.enc.map L.d):=Eq.trans rfl rfl
theorem Rec.lenL (e:Rec):(e.enc.map L.d).length=3:=Eq.trans rfl rfl
theorem Rec.at0 (e:Rec):e.enc[0]?=some (.i .i64 e.at_):=Eq.trans rfl rfl
theorem Rec.fd0 (e:Rec):(e.enc.map L.d)[0]?=some (zI e.at_):=Eq.trans rfl rfl
theorem Rec.at1 (e:Rec):(e.enc.drop 1)[0]?=some (.i .i64 e.ti):=Eq.trans rfl rfl
theorem Rec.fd1 (e:Rec):(e.enc.map L.d)[1]?=some (zI e.ti):=Eq.trans rfl rfl
theorem Rec.at2 (e:Rec):(e.enc.drop 2)[0]?=some (.s e.da):=Eq.trans rfl rfl
theorem Rec.fd2 (e:Rec):(e.enc.map L.d)[2]?=some (zS e.da):=Eq.trans rfl rfl
def Rec.ok (e:Rec):Prop:=(-9223372036854775808<=e.at_∧e.at_<9223372036854775808)∧(-9223372036854775808<=e.ti∧e.ti<9223372036854775808)∧e.da.length<=9223372036854775807
def Rec.ty:List Ty:=[.i .i64,.i .i64,.s]
theorem Rec.of (r:List D) (h:cI Rec.ty r):∃ e:Rec,r=e.enc∧e.ok:=by
 simp only[Rec.ty,cI,Ek] at h;obtain⟨_,_,rfl,⟨x0,rfl,h0,g0⟩,⟨_,_,rfl,⟨x1,rfl,h1,g1⟩,⟨_,_,rfl,⟨x2,rfl,h2⟩,rfl⟩⟩⟩:=h;refine⟨⟨x0,x1,x2⟩,rfl,?_⟩;exact⟨⟨Int.le_trans (by decide) h0,zK g0 (by decide)⟩,⟨Int.le_trans (by decide) h1,zK g1 (by decide)⟩,h2⟩
def fp (n:Int):Bool:=decide (0<=n) && decide (n<=1099511627776)
def whyF (r:Rec):Int:=if fp r.at_=true∧fp r.ti=true then(if r.da.length<=64 then 0 else 5) else 6
theorem Er {n:Int} (h:fp n=true):0<=n∧n<=1099511627776:=by simpa[fp] using h
theorem xd (n:Int) (hn : -9223372036854775808<=n∧n<9223372036854775808):call 133 [vi n] []=some (vb (!fp n),[]):=by
 apply ah Qz rfl;by_cases c:0<=n
 ·by_cases c2:n<=1099511627776
  ·have e:IntKind.u64.wrap n=n:=oy (by omega)
   have eo:fp n=true:=by simp[fp,c,c2]
   (simp(disch:=first|decide|omega|(intros;exact aj rfl rfl)|simp only[aa]) only[JF,e,eo,go_sem,seval,ak])
  ·have e:IntKind.u64.wrap n=n:=oy (by omega)
   have eo:fp n=false:=by simp[fp,c,c2]
   (simp(disch:=first|decide|omega|(intros;exact aj rfl rfl)|simp only[aa]) only[JF,e,eo,go_sem,seval,ak])
 ·have e:IntKind.u64.wrap n=n+18446744073709551616:=by
   show n % 18446744073709551616=_;omega
  have eo:fp n=false:=by simp[fp,c]
  (simp(disch:=first|decide|omega|(intros;exact aj rfl rfl)|simp only[aa]) only[JF,e,eo,go_sem,seval,ak])
theorem p6 (n:Int):call 129 [vi n] []=some (vb (fp n),[]):=by
 apply ah PS rfl;by_cases c:0<=n
 ·(simp(disch:=first|decide|omega|(intros;exact aj rfl rfl)|simp only[aa]) only[MP,fp,c,go_sem,seval,ak])
 ·(simp(disch:=first|decide|omega|(intros;exact aj rfl rfl)|simp only[aa]) only[MP,fp,c,Bool.false_and,go_sem,seval,ak])
theorem nl (r:Rec) (hr:r.ok):call 96 [.agg (r.enc.map .d)] []=some (vi (whyF r),[]):=by
 apply ah SH rfl;obtain⟨h1,h2,h3⟩:=hr;have f1:=xd r.at_ h1;have f2:=xd r.ti h2;unfold whyF;cases c1:fp r.at_ with
 | false =>
  rw[c1] at f1;(simp(disch:=first|decide|omega|(intros;exact aj rfl rfl)|simp only[aa]) only[M4,Rec.len,Rec.tk,Rec.fd0,Rec.fd1,Rec.fd2,Rec.at0,Rec.at1,Rec.at2,f1,f2,go_sem,seval,ak])
  try simp
 | true =>
  cases c2:fp r.ti with
  | false =>
   rw[c1] at f1;rw[c2] at f2;(simp(disch:=first|decide|omega|(intros;exact aj rfl rfl)|simp only[aa]) only[M4,Rec.len,Rec.tk,Rec.fd0,Rec.fd1,Rec.fd2,Rec.at0,Rec.at1,Rec.at2,f1,f2,go_sem,seval,ak])
   try simp
  | true =>
   rw[c1] at f1;rw[c2] at f2;by_cases c3:r.da.length<=64
   ·(simp(disch:=first|decide|omega|(intros;exact aj rfl rfl)|simp only[aa]) only[M4,Rec.len,Rec.tk,Rec.fd0,Rec.fd1,Rec.fd2,Rec.at0,Rec.at1,Rec.at2,f1,f2,go_sem,seval,ak])
    try simp[c3]
   ·(simp(disch:=first|decide|omega|(intros;exact aj rfl rfl)|simp only[aa]) only[M4,Rec.len,Rec.tk,Rec.fd0,Rec.fd1,Rec.fd2,Rec.at0,Rec.at1,Rec.at2,f1,f2,go_sem,seval,ak])
    try simp[c3]
theorem F5 (r:Rec) (hr:r.ok):call 89 [.agg (r.enc.map .d)] []=some (vi (whyF r),[]):=by
 apply ah SP rfl;obtain⟨h1,h2,h3⟩:=hr;have f1:=p6 r.at_;have f2:=p6 r.ti;unfold whyF;cases c1:fp r.at_ with
 | false =>
  rw[c1] at f1;(simp(disch:=first|decide|omega|(intros;exact aj rfl rfl)|simp only[aa]) only[NX,Rec.len,Rec.tk,Rec.fd0,Rec.fd1,Rec.fd2,Rec.at0,Rec.at1,Rec.at2,f1,f2,go_sem,seval,ak])
  try simp
 | true =>
  cases c2:fp r.ti with
  | false =>
   rw[c1] at f1;rw[c2] at f2;(simp(disch:=first|decide|omega|(intros;exact aj rfl rfl)|simp only[aa]) only[NX,Rec.len,Rec.tk,Rec.fd0,Rec.fd1,Rec.fd2,Rec.at0,Rec.at1,Rec.at2,f1,f2,go_sem,seval,ak])
   try simp
  | true =>
   rw[c1] at f1;rw[c2] at f2;by_cases c3:r.da.length<=64
   ·(simp(disch:=first|decide|omega|(intros;exact aj rfl rfl)|simp only[aa]) only[NX,Rec.len,Rec.tk,Rec.fd0,Rec.fd1,Rec.fd2,Rec.at0,Rec.at1,Rec.at2,f1,f2,go_sem,seval,ak])
    try simp[c3]
   ·(simp(disch:=first|decide|omega|(intros;exact aj rfl rfl)|simp only[aa]) only[NX,Rec.len,Rec.tk,Rec.fd0,Rec.fd1,Rec.fd2,Rec.at0,Rec.at1,Rec.at2,f1,f2,go_sem,seval,ak])
    try simp[c3]
theorem sy (r:Rec) (hr:r.ok):call 79 [.agg (r.enc.map .d)] []=some (vb (decide (whyF r=0)),[]):=by
 apply ah Sh rfl;have h:=nl r hr;(simp(disch:=first|decide|omega|(intros;exact aj rfl rfl)|simp only[aa]) only[RX,Rec.len,Rec.tkL,Rec.dat,Rec.lenL,h,go_sem,seval,ak])
 try rfl
def bE (r:Rec):List UInt8:=aq r.at_.toNat++aq r.ti.toNat++r.da
structure Fit (r:Rec):Prop where
 a0:0<=r.at_
 a1:r.at_<=1099511627776
 t0:0<=r.ti
 t1:r.ti<=1099511627776
 d:r.da.length<=64
theorem kI {r:Rec}:whyF r=0↔Fit r:=by
 unfold whyF;constructor
 ·intro h;split at h
  ·rename_i c;have c1:=Er c.1;have c2:=Er c.2;split at h
   ·exact⟨c1.1,c1.2,c2.1,c2.2,by assumption⟩
   ·cases h
  ·cases h
 ·intro h;have c1:fp r.at_=true:=by simp[fp,h.a0,h.a1]
  have c2:fp r.ti=true:=by simp[fp,h.t0,h.t1]
  rw[if_pos ⟨c1,c2⟩,if_pos h.d]
theorem FC {n:Nat} (h:n<=1099511627776):nd n<=6:=by
 have hp:=fA n;rcases Nat.lt_or_ge 6 (nd n) with h6|h6
 ·have:=(eZ (nd n-1) n).1 (by omega)
  rcases this.2 with h0|h0
  ·omega
  ·have:(128:Nat) ^ 6<=128 ^ (nd n-1):=Nat.pow_le_pow_right (by decide) (by omega)
   have e:(128:Nat) ^ 6=4398046511104:=by decide
   omega
 ·exact h6
theorem yc (r:Rec):(bE r).length=nd r.at_.toNat+nd r.ti.toNat+r.da.length:=by simp[bE,nd,Nat.add_assoc]
theorem Fit.blen {r:Rec} (h:Fit r):2<=(bE r).length∧(bE r).length<=76:=by
 have h1:=FC (n:=r.at_.toNat) (by have:=h.a0;have:=h.a1;omega)
 have h2:=FC (n:=r.ti.toNat) (by have:=h.t0;have:=h.t1;omega)
 have h3:=fA r.at_.toNat;have h4:=fA r.ti.toNat;have:=h.d;rw[yc];omega
def putR (r:Rec):V:=if whyF r=0 then .tup [(false,[zS (aY (bE r))]),(false,[zI 0])] else .tup [(false,[.d (.s [])]),(false,[zI (whyF r)])]
theorem DT {n:Int} (h:0<=n) (h1:n<9223372036854775808):call 136 [vi n] []=some (vs (aq n.toNat),[]):=by
 have:=oU n.toNat (by omega)
 rwa [show((n.toNat:Nat):Int)=n by omega] at this
theorem ml {n:Int} (h:0<=n) (h1:n<9223372036854775808):call 66 [vi n] []=some (vs (aq n.toNat),[]):=by
 have:=jA n.toNat (by omega)
 rwa [show((n.toNat:Nat):Int)=n by omega] at this
theorem OQ {n:Int} (h:0<=n) (h1:n<9223372036854775808):call 131 [vi n] []=some (vi (nd n.toNat),[]):=by
 have:=rD n.toNat (by omega)
 rwa [show((n.toNat:Nat):Int)=n by omega] at this
theorem xN (r:Rec) (hr:r.ok):call 99 [.agg (r.enc.map .d)] []=some (putR r,[]):=by
 apply ah SS rfl;have h:=nl r hr;unfold putR;by_cases c:whyF r=0
 ·have hf:=kI.1 c;have hb:=hf.blen;have p:=mN (bE r) (by omega)
  unfold xK at p;rw[if_pos (by omega)] at p
  rw[c] at h;have p1:=DT hf.a0 hr.1.2;have p2:=DT hf.t0 hr.2.1.2;have l1:(aq r.at_.toNat).length<=9:=du (n:=r.at_.toNat) (by have:=hr.1.2;omega)
  have l2:(aq r.ti.toNat).length<=9:=du (n:=r.ti.toNat) (by have:=hr.2.1.2;omega)
  have l3:=hf.d;unfold bE at p;rw[if_pos c];(simp(disch:=first|decide|omega|(intros;exact aj rfl rfl)|simp only[aa]) only[Rq,Rec.len,Rec.tkL,Rec.dat,Rec.lenL,Rec.fd0,Rec.fd1,Rec.fd2,Rec.at0,Rec.at1,Rec.at2,h,p1,p2,p,bE,go_sem,seval,ak])
 ·rw[if_neg c];(simp(disch:=first|decide|omega|(intros;exact aj rfl rfl)|simp only[aa]) only[Rq,Rec.len,Rec.tkL,Rec.dat,Rec.lenL,Rec.fd0,Rec.fd1,Rec.fd2,Rec.at0,Rec.at1,Rec.at2,h,go_sem,seval,ak])
theorem uY (r:Rec) (hr:r.ok) (hf:Fit r):call 90 [.agg (r.enc.map .d)] []=some (vs (bE r),[]):=by
 apply ah Sm rfl;have p1:=ml hf.a0 hr.1.2;have p2:=ml hf.t0 hr.2.1.2;have l1:(aq r.at_.toNat).length<=9:=du (n:=r.at_.toNat) (by have:=hr.1.2;omega)
 have l2:(aq r.ti.toNat).length<=9:=du (n:=r.ti.toNat) (by have:=hr.2.1.2;omega)
 have l3:=hf.d;(simp(disch:=first|decide|omega|(intros;exact aj rfl rfl)|simp only[aa]) only[RD,Rec.len,Rec.tkL,Rec.dat,Rec.lenL,Rec.fd0,Rec.fd1,Rec.fd2,Rec.at0,Rec.at1,Rec.at2,p1,p2,bE,go_sem,seval,ak])
theorem rO (r:Rec) (hr:r.ok):call 67 [.agg (r.enc.map .d)] []=some (putR r,[]):=by
 apply ah Sb rfl;have h:=F5 r hr;unfold putR;by_cases c:whyF r=0
 ·have hf:=kI.1 c;have hb:=hf.blen;have p:=j8 (bE r) (by omega)
  unfold xK at p;rw[if_pos (by omega)] at p
  rw[c] at h;have p1:=uY r hr hf;rw[if_pos c];(simp(disch:=first|decide|omega|(intros;exact aj rfl rfl)|simp only[aa]) only[QC,Rec.len,Rec.tkL,Rec.dat,Rec.lenL,Rec.fd0,Rec.fd1,Rec.fd2,Rec.at0,Rec.at1,Rec.at2,h,p1,p,go_sem,seval,ak])
 ·rw[if_neg c];(simp(disch:=first|decide|omega|(intros;exact aj rfl rfl)|simp only[aa]) only[QC,Rec.len,Rec.tkL,Rec.dat,Rec.lenL,Rec.fd0,Rec.fd1,Rec.fd2,Rec.at0,Rec.at1,Rec.at2,h,go_sem,seval,ak])
def gc (r:Rec):Nat:=if whyF r=0 then(aY (bE r)).length else 0
theorem wn (r:Rec) (hr:r.ok):call 91 [.agg (r.enc.map .d)] []=some (vi (gc r),[]):=by
 apply ah Su rfl;have h:=sy r hr;unfold gc;by_cases c:whyF r=0
 ·have hf:=kI.1 c;have hb:=hf.blen;rw[zT c] at h;have p1:=OQ hf.a0 hr.1.2;have p2:=OQ hf.t0 hr.2.1.2;have l1:=du (n:=r.at_.toNat) (by have:=hr.1.2;omega)
  have l2:=du (n:=r.ti.toNat) (by have:=hr.2.1.2;omega)
  have l3:=hf.d;have hs:=Cz ((nd r.at_.toNat:Int)+(nd r.ti.toNat:Int)+(r.da.length:Int));have he:xm ((nd r.at_.toNat:Int)+(nd r.ti.toNat:Int)+(r.da.length:Int))=(((aY (bE r)).length:Nat):Int):=by
   rw[gg];have hl:=yc r;unfold xm;rw[if_pos (by omega),show((nd r.at_.toNat:Int)+(nd r.ti.toNat:Int)+(r.da.length:Int)).toNat=(bE r).length by omega]
   omega
  rw[he] at hs;rw[if_pos c];(simp(disch:=first|decide|omega|(intros;exact aj rfl rfl)|simp only[aa]) only[QJ,Rec.len,Rec.tkL,Rec.dat,Rec.lenL,Rec.fd0,Rec.fd1,Rec.fd2,Rec.at0,Rec.at1,Rec.at2,h,p1,p2,hs,go_sem,seval,ak])
 ·rw[if_neg c];rw[zF c] at h;(simp(disch:=first|decide|omega|(intros;exact aj rfl rfl)|simp only[aa]) only[QJ,Rec.len,Rec.tkL,Rec.dat,Rec.lenL,Rec.fd0,Rec.fd1,Rec.fd2,Rec.at0,Rec.at1,Rec.at2,h,go_sem,seval,ak])
  try rfl
theorem qz (r:Rec) (hr:r.ok):call 40 [.agg (r.enc.map .d)] []=some (vi (gc r),[]):=by
 apply ah SD rfl;have h:=rO r hr;unfold gc;unfold putR at h;by_cases c:whyF r=0
 ·rw[if_pos c] at h ⊢;(simp(disch:=first|decide|omega|(intros;exact aj rfl rfl)|simp only[aa]) only[Qf,Rec.len,Rec.tkL,Rec.dat,Rec.lenL,h,go_sem,seval,ak])
 ·rw[if_neg c] at h ⊢;(simp(disch:=first|decide|omega|(intros;exact aj rfl rfl)|simp only[aa]) only[Qf,Rec.len,Rec.tkL,Rec.dat,Rec.lenL,h,go_sem,seval,ak])
theorem uP (s:List UInt8) (a:Nat) (g:Bool) (ha:a<9223372036854775808) (hs:s.length<=9223372036854775807) :
  call 195 [.one (.p 0 0),.one (.p 1 0),.one (.p 2 0)] [.cells [zS s],.cells [zI a],.cells [zB g]] =
   some (match ny (s.drop a) 0 0 with|some (n,k)=>(vi n,[.cells [zS s],.cells [zI ((a+k:Nat):Int)],.cells [zB g]])|none=>(vi 0,[.cells [zS s],.cells [zI 0],.cells [zB false]])):=by
 apply ah PJ rfl;have hr:=me s a ha hs;cases h:ny (s.drop a) 0 0 with
 | none =>
  rw[h] at hr;cases g
  ·(simp(disch:=first|decide|omega|(intros;exact aj rfl rfl)|simp only[aa]) only[Gq,hr,sw,go_sem,seval,ak])
   try rfl
  ·(simp(disch:=first|decide|omega|(intros;exact aj rfl rfl)|simp only[aa]) only[Gq,hr,sw,go_sem,seval,ak])
   try rfl
 | some q =>
  obtain⟨n,k⟩:=q;rw[h] at hr;cases g
  ·(simp(disch:=first|decide|omega|(intros;exact aj rfl rfl)|simp only[aa]) only[Gq,hr,sw,go_sem,seval,ak])
   try rfl
  ·(simp(disch:=first|decide|omega|(intros;exact aj rfl rfl)|simp only[aa]) only[Gq,hr,sw,go_sem,seval,ak])
   try rfl
def gY (s:List UInt8):Rec × Int:=match ny s 0 0 with
 | none=>(⟨0,0,[]⟩,3)
 | some (n,k)=>match ny (s.drop k) 0 0 with
  | none=>(⟨0,0,[]⟩,3)
  | some (m,j)=>if whyF ⟨n,m,s.drop (k+j)⟩=0 then(⟨n,m,s.drop (k+j)⟩,0) else(⟨0,0,[]⟩,whyF ⟨n,m,s.drop (k+j)⟩)
def Mt (r:Rec × Int):V:=.tup [(true,r.1.enc.map .d),(false,[zI r.2])]
theorem ku {φ:ch} {f:FuncId} {args args':List V} {H H' H1 H2:Hp} {ids:List Nat} {r r':V} (hi:aK H (args.flatMap V.refs)=ids) (ha:args.map (V.ren (aG ids))=args') (hH:ay H ids=H')
  (hr:φ f args' H'=some (r,H1)) (he:(r.ren (fun j=>if j<ids.length then ids[j]? else some (H.length+(j-ids.length))),bW H ids ((H1.take ids.length).map (Box.ren (fun j=>if j<ids.length then ids[j]? else some (H.length+(j-ids.length)))))++(H1.drop ids.length).map (Box.ren (fun j=>if j<ids.length then ids[j]? else some (H.length+(j-ids.length)))))=(r',H2)) :
  au φ f args H=some (r',H2):=by
 subst hi;subst ha;subst hH;simp only[au,hr];rw[he]
theorem Kx {l:List UInt8} {n k:Nat} (h:ny l 0 0=some (n,k)):n<9223372036854775808:=by
 obtain⟨h1,h2,h3,h4⟩:=jY h;have e:nd n=k:=by unfold nd;rw[<- h4,zQ];omega
 obtain⟨m,hm⟩:∃ m,nd n=m+1:=⟨nd n-1,by have:=fA n;omega⟩
 have:=((eZ m n).1 hm).1;have h9:(128:Nat) ^ (m+1)<=128 ^ 9:=Nat.pow_le_pow_right (by decide) (by omega)
 have e9:(128:Nat) ^ 9=9223372036854775808:=by decide
 omega
theorem EB (s:List UInt8) (hs:s.length<=1000000):call 189 [vs s] []=some (Mt (gY s),[]):=by
 apply ah Rk rfl;have g1:=uP s 0 true (by decide) (by omega)
 unfold gY Mt;cases h:ny s 0 0 with
 | none =>
  rw[List.drop_zero,h] at g1;have c1:au call 195 [.one (.p 0 0),.one (.p 2 0),.one (.p 3 0)] [.cells [zS s],.cells [zI 0,zI 0,.d (.s [])],.cells [zI 0],.cells [zB true]]=some (vi 0,[.cells [zS s],.cells [zI 0,zI 0,.d (.s [])],.cells [zI 0],.cells [zB false]]) :=
   ku rfl rfl rfl g1 rfl
  (simp(disch:=first|decide|omega|(intros;exact aj rfl rfl)|simp only[aa]) only[GV,c1,List.mapM_cons,List.mapM_nil,Option.pure_def,Option.bind_eq_bind,Option.bind_some,List.map_cons,List.map_nil,List.cons_append,List.nil_append,go_sem,seval,ak])
  try rfl
 | some q =>
  obtain⟨n,k⟩:=q;rw[List.drop_zero,h] at g1;obtain⟨b1,b2,b3,b4⟩:=jY h;have hn:=Kx h;simp only[Nat.zero_add] at g1;have c1:au call 195 [.one (.p 0 0),.one (.p 2 0),.one (.p 3 0)] [.cells [zS s],.cells [zI 0,zI 0,.d (.s [])],.cells [zI 0],.cells [zB true]]=some (vi n,[.cells [zS s],.cells [zI 0,zI 0,.d (.s [])],.cells [zI k],.cells [zB true]]) :=
   ku rfl rfl rfl g1 rfl
  have g2:=uP s k true (by omega) (by omega)
  dsimp only
  cases h2:ny (s.drop k) 0 0 with
  | none =>
   rw[h2] at g2;have c2:au call 195 [.one (.p 0 0),.one (.p 2 0),.one (.p 3 0)] [.cells [zS s],.cells [zI 0,zI 0,.d (.s [])],.cells [zI k],.cells [zB true],.cells [zI n,zI 0,.d (.s [])]]=some (vi 0,[.cells [zS s],.cells [zI 0,zI 0,.d (.s [])],.cells [zI 0],.cells [zB false],.cells [zI n,zI 0,.d (.s [])]]) :=
    ku rfl rfl rfl g2 rfl
   (simp(disch:=first|decide|omega|(intros;exact aj rfl rfl)|simp only[aa]) only[GV,c1,c2,List.mapM_cons,List.mapM_nil,Option.pure_def,Option.bind_eq_bind,Option.bind_some,List.map_cons,List.map_nil,List.cons_append,List.nil_append,go_sem,seval,ak])
   try rfl
  | some q2 =>
   obtain⟨m,j⟩:=q2;rw[h2] at g2;obtain⟨d1,d2,d3,d4⟩:=jY h2;have hm:=Kx h2;have d2':k+j<=s.length:=by rw[zH] at d2;omega
   have c2:au call 195 [.one (.p 0 0),.one (.p 2 0),.one (.p 3 0)] [.cells [zS s],.cells [zI 0,zI 0,.d (.s [])],.cells [zI k],.cells [zB true],.cells [zI n,zI 0,.d (.s [])]]=some (vi m,[.cells [zS s],.cells [zI 0,zI 0,.d (.s [])],.cells [zI ((k+j:Nat):Int)],.cells [zB true],.cells [zI n,zI 0,.d (.s [])]]) :=
    ku rfl rfl rfl g2 rfl
   have ck:call 96 [.agg [zI n,zI m,zS (s.drop (k+j))]] []=some (vi (whyF ⟨n,m,s.drop (k+j)⟩),[]):=nl ⟨n,m,s.drop (k+j)⟩ ⟨⟨by simp only[];omega,by simp only[];omega⟩,⟨by simp only[];omega,by simp only[];omega⟩,by simp;omega⟩
   dsimp only
   by_cases c:whyF ⟨n,m,s.drop (k+j)⟩=0
   ·rw[c] at ck;rw[if_pos c];(simp(disch:=first|decide|omega|(intros;exact aj rfl rfl)|simp only[aa]) only[GV,c1,c2,ck,List.mapM_cons,List.mapM_nil,Option.pure_def,Option.bind_eq_bind,Option.bind_some,List.map_cons,List.map_nil,List.cons_append,List.nil_append,go_sem,seval,ak])
    try rfl
   ·rw[if_neg c];(simp(disch:=first|decide|omega|(intros;exact aj rfl rfl)|simp only[aa]) only[GV,c1,c2,ck,c,List.mapM_cons,List.mapM_nil,Option.pure_def,Option.bind_eq_bind,Option.bind_some,List.map_cons,List.map_nil,List.cons_append,List.nil_append,go_sem,seval,ak])
    try rfl
theorem xW {r:Rec}:gc r<=82:=by
 unfold gc;split
 ·rename_i c;have hf:=(kI.1 c).blen;rw[gg,iK (by omega)];omega
 ·omega
def wB (r:Rec):List UInt8:=aY (bE r)
def rowS (l:List Rec):List UInt8:=l.flatMap wB
theorem DU {r:Rec} (h:whyF r=0):(wB r).length<=82:=by
 have:=xW (r:=r);unfold gc at this;rw[if_pos h] at this;exact this
def Ct (l:List Rec) (n:Int):Bool:=decide ((l.length:Int)<=n) && l.all fun r=>decide (r.da.length<=300)
theorem yl (l:List Rec) (n:Int) (hl:l.length<=9223372036854775807) (hr:∀ r∈l,r.ok):call 25 [vl (l.map Rec.enc),vi n] []=some (vb (Ct l n),[]):=by
 apply ah Sq rfl;by_cases c:(l.length:Int)<=n
 ·have e0:Ct l n=(l.drop 0).all fun r=>decide (r.da.length<=300):=by simp[Ct,c]
  (simp(disch:=first|decide|omega|(intros;exact aj rfl rfl)|simp only[aa]) only[Rp,go_sem,seval,ak])
  rw[e0];refine iF (σ:=Nat) (fun i=>l.length-i) (fun i=>i<=l.length) (fun i=>[vl (l.map Rec.enc),vi i]) (fun i=>(vb ((l.drop i).all fun r=>decide (r.da.length<=300)),([]:Hp))) (fun _=>by simp only[go_sem,seval]) ?_ 0 (zP _) _ ?_
  ·intro i hi R hR;rcases Nat.lt_or_ge i l.length with h|h
   ·have hd:=(hr _ (zN h)).2.2;rw[zD h,List.all_cons];by_cases c2:l[i].da.length<=300
    ·rw[zT c2,Bool.true_and];obtain⟨W,hW⟩:∃ W,W=(List.drop (i+1) l).all fun r=>decide (r.da.length<=300):=⟨_,rfl⟩
     rw[<- hW];(simp(disch:=first|decide|omega|(intros;exact aj rfl rfl)|simp only[aa]) only[BY,Rec.len,Rec.tk,Rec.at2,go_sem,seval,ak])
     rw[hW];exact hR (i+1) (by first|omega|(simp only[];omega)) (by first|omega|(simp only[];omega)) _ (by simp[go_sem,seval])
    ·rw[zF c2,Bool.false_and];(simp(disch:=first|decide|omega|(intros;exact aj rfl rfl)|simp only[aa]) only[BY,Rec.len,Rec.tk,Rec.at2,go_sem,seval,ak])
   ·rw[zC h];(simp(disch:=first|decide|omega|(intros;exact aj rfl rfl)|simp only[aa]) only[BY,go_sem,seval,ak])
  ·simp[go_sem,seval]
 ·(simp(disch:=first|decide|omega|(intros;exact aj rfl rfl)|simp only[aa]) only[Rp,Ct,go_sem,seval,ak])
  simp[c]
theorem AQ (s:List UInt8) (a:Nat):(gT s a).1.length<=s.length:=by
 unfold gT;repeat' split
 all_goals (try simp)
 all_goals omega
theorem Dj {r:Rec} (h:Fit r):gY (bE r)=(r,0):=by
 have h0:=h.a0;have h1:=h.a1;have h2:=h.t0;have h3:=h.t1;have ea:((r.at_.toNat:Nat):Int)=r.at_:=by omega
 have et:((r.ti.toNat:Nat):Int)=r.ti:=by omega
 have r1:ny (bE r) 0 0=some (r.at_.toNat,nd r.at_.toNat):=by
  unfold bE;rw[List.append_assoc];exact n4 _ _ (by omega)
 have d1:(bE r).drop (nd r.at_.toNat)=aq r.ti.toNat++r.da:=by
  unfold bE nd;rw[List.append_assoc,List.drop_left]
 have r2:ny (aq r.ti.toNat++r.da) 0 0=some (r.ti.toNat,nd r.ti.toNat):=n4 _ _ (by omega)
 have d2:(bE r).drop (nd r.at_.toNat+nd r.ti.toNat)=r.da:=by
  rw[<- List.drop_drop,d1];unfold nd;rw[List.drop_left]
 have er:(⟨((r.at_.toNat:Nat):Int),((r.ti.toNat:Nat):Int),r.da⟩:Rec)=r:=by rw[ea,et]
 unfold gY;rw[r1];simp only[];rw[d1,r2];simp only[];rw[d2,er,if_pos (kI.2 h)]
theorem Jf {l:List Rec} (h:∀ r∈l,whyF r=0):(rowS l).length<=82*l.length:=by
 induction l with
 | nil=>simp[rowS]
 | cons r l ih =>
  have h1:=DU (h r (List.mem_cons_self ..));have h2:=ih fun x hx=>h x (List.mem_cons_of_mem _ hx)
  have e:rowS (r::l)=wB r++rowS l:=rfl;rw[e,zA,List.length_cons];omega
def bK:Nat->List UInt8->Nat->Int->List (Rec × Nat) × Nat × Int
 | 0,_,a,_=>([],a,0)
 | f+1,s,a,b=>if s.length<=a then([],a,0) else
  match gT s a with
  | (t,n,e)=>if e=0 then(if(gY t).2=0 then(if(gY t).1.at_=b then(((gY t).1,a)::(bK f s n (b+1)).1,(bK f s n (b+1)).2) else([],a,3)) else([],a,(gY t).2)) else([],a,e)
theorem eu {s t:List UInt8} {a n f:Nat} {b:Int} (ha:a<s.length) (h:gT s a=(t,n,0)) (hg:(gY t).2=0) (hb:(gY t).1.at_=b):bK (f+1) s a b=(((gY t).1,a)::(bK f s n (b+1)).1,(bK f s n (b+1)).2):=by
 simp only[bK];rw[if_neg (by omega),h];simp only[];rw[if_pos trivial,if_pos hg,if_pos hb]
theorem gB {s t:List UInt8} {a n f:Nat} {b:Int} (ha:a<s.length) (h:gT s a=(t,n,0)) (hg:(gY t).2=0) (hb:(gY t).1.at_≠b):bK (f+1) s a b=([],a,3):=by
 simp only[bK];rw[if_neg (by omega),h];simp only[];rw[if_pos trivial,if_pos hg,if_neg hb]
theorem gL {s t:List UInt8} {a n f:Nat} {b:Int} (ha:a<s.length) (h:gT s a=(t,n,0)) (hg:(gY t).2≠0):bK (f+1) s a b=([],a,(gY t).2):=by
 simp only[bK];rw[if_neg (by omega),h];simp only[];rw[if_pos trivial,if_neg hg]
theorem f9 {s t:List UInt8} {a n f:Nat} {e b:Int} (ha:a<s.length) (h:gT s a=(t,n,e)) (he:e≠0):bK (f+1) s a b=([],a,e):=by
 simp only[bK];rw[if_neg (by omega),h];simp only[];rw[if_neg he]
theorem fH {s:List UInt8} {a f:Nat} {b:Int} (ha:s.length<=a):bK f s a b=([],a,0):=by
 cases f with
 | zero=>rfl
 | succ f=>simp only[bK];rw[if_pos ha]
theorem wk {s:List UInt8}:∀ (g g' b:Nat) (o:Int),b<=s.length->s.length<b+g->s.length<b+g'->bK g s b o=bK g' s b o:=by
 intro g;induction g with
 | zero=>intro g' b o hb h1 h2;omega
 | succ g ih =>
  intro g' b o hb h1 h2;obtain⟨g2,rfl⟩:∃ g2,g'=g2+1:=⟨g'-1,by omega⟩
  rcases Nat.lt_or_ge b s.length with hbl|hbl
  ·obtain⟨⟨t',n',e'⟩,hx'⟩:∃ x,gT s b=x:=⟨_,rfl⟩;by_cases he':e'=0
   ·subst he';have hok':=rW hx';by_cases hg:(gY t').2=0
    ·by_cases ho:(gY t').1.at_=o
     ·rw[eu hbl hx' hg ho,eu hbl hx' hg ho,ih g2 n' _ hok'.2 (by omega) (by omega)]
     ·rw[gB hbl hx' hg ho,gB hbl hx' hg ho]
    ·rw[gL hbl hx' hg,gL hbl hx' hg]
   ·rw[f9 hbl hx' he',f9 hbl hx' he']
  ·rw[fH hbl,fH hbl]
theorem DC (n:Int) (hn : -9223372036854775808<=n∧n<9223372036854775808):call 173 [vi n] []=some (vb (fp n),[]):=by
 apply ah Qp rfl;unfold fp;by_cases c:0<=n
 ·have e:IntKind.u64.wrap n=n:=oy ⟨c,by omega⟩
  by_cases c2:n<=1099511627776
  ·(simp(disch:=first|decide|omega|(intros;exact aj rfl rfl)|simp only[aa]) only[IY,e,c,c2,go_sem,seval,ak])
  ·(simp(disch:=first|decide|omega|(intros;exact aj rfl rfl)|simp only[aa]) only[IY,e,c,c2,go_sem,seval,ak])
 ·have e:IntKind.u64.wrap n=n+18446744073709551616:=by
   simp[IntKind.wrap,IntKind.bits,IntKind.signed];omega
  (simp(disch:=first|decide|omega|(intros;exact aj rfl rfl)|simp only[aa]) only[IY,e,c,Bool.false_and,go_sem,seval,ak])
theorem vG (xs:List L):call 174 [.one (.p 0 0)] [.cells xs]=some (.one (.f 187 [1]),[.cells xs,.cells [.p 0 0]]):=by
 apply ah Qg rfl;(simp(disch:=first|decide|omega|(intros;exact aj rfl rfl)|simp only[aa]) only[NJ,List.mapM_cons,List.mapM_nil,Option.pure_def,Option.bind_eq_bind,Option.bind_some,go_sem,seval,ak])
 simp[trim,V.refs,L.refs]
def jO (r:List (Rec × Nat) × Nat × Int):V:=.tup [(false,[.d (.l (r.1.map fun x=>x.1.enc))]),(false,[zI ((r.2.1:Nat):Int)]),(false,[zI r.2.2])]
def ib (s:List UInt8) (b:Int):List (Rec × Nat) × Nat × Int:=if fp b=true then bK (s.length+1) s 0 b else([],0,1)
def qA (l:List (Rec × Nat)):L:=match l with|[]=>.ns|_=>.sl 4 3 0 l.length
def qD (l:List (Rec × Nat)):Hp:=match l with|[]=>[]|_=>[.arr 3 (l.map fun x=>x.1.enc) 0]
theorem DA (s:List UInt8) (hs:s.length<=1000000) (b:Int) (hb : -9223372036854775808<=b∧b<9223372036854775808):call 147 [vs s,vi b] []=some (jO (ib s b),[]):=by
 apply KV Q9 rfl;have hg:=DC b hb;unfold ib jO;cases h:fp b with
 | false =>
  rw[h] at hg;(simp(disch:=first|decide|omega|(intros;exact aj rfl rfl)|simp only[aa]) only[Ln,hg,go_sem,seval,ak,bI,A.kind,A.xs,aD,A.isN,tL])
  try simp
 | true =>
  rw[h] at hg;have c1:au call 174 [.one (.p 0 0)] [.cells [zS s,zI 0,zI b,zI 0],.cells [.ns]]=some (.one (.f 187 [2]),[.cells [zS s,zI 0,zI b,zI 0],.cells [.ns],.cells [.p 0 0]]) :=
   aE rfl rfl rfl (vG _) rfl
  (simp(disch:=first|decide|omega|(intros;exact aj rfl rfl)|simp only[aa]) only[Ln,hg,c1,go_sem,seval,ak,bI,A.kind,A.xs,aD,A.isN,tL])
  rw[Mr (gf:=187) (caps:=[2]) (af:=LV) (by rfl) QG rfl]
  generalize hψ:fL call _ _ _ _=ψ;(simp(disch:=first|decide|omega|(intros;exact aj rfl rfl)|simp only[aa]) only[LV,go_sem,seval,ak,bI,A.kind,A.xs,aD,A.isN,iJ,↓cU,↓cE])
  have hr:=fun(v:V) (H:Hp)=>(congrFun (congrFun hψ.symm [v]) H).trans (Ci _ _ _ _ _ [v] H rfl)
  clear hψ;have hb2:0<=b∧b<=1099511627776:=by simpa[fp] using h
  refine Dv (N:=82) (m:=4) (σ:=Nat × Int × List (Rec × Nat)) (fun t=>s.length-t.1) (fun t=>t.1<=s.length∧t.2.2.length<=t.1∧t.2.1=b+t.2.2.length) (fun t=>[V.one (.y 3 0),V.one (.p 2 0)])
   (fun t=>[.cells [zS s,zI t.1,zI t.2.1,zI 0],.cells [qA t.2.2],.cells [.p 0 0],.dead]++qD t.2.2)
   (fun t=>(jO (t.2.2++(bK (s.length+1-t.1) s t.1 t.2.1).1,(bK (s.length+1-t.1) s t.1 t.2.1).2),([]:Hp))) ?_ (0,b,[]) ⟨zP _,by simp,by simp⟩ _ _ cm
  rintro⟨a,nx,out⟩ ⟨ha,hout,hnx⟩ R hR;simp only at ha hout hnx;rcases Nat.lt_or_ge a s.length with h|h
  ·obtain⟨f,hf⟩:∃ f,s.length+1-a=f+1:=⟨s.length-a,by omega⟩
   have hn:=Cv s a (by omega) (by omega)
   have htl:=AQ s a;obtain⟨⟨t,n,e⟩,hx⟩:∃ x,gT s a=x:=⟨_,rfl⟩;rw[hx] at hn htl;by_cases he:e=0
   ·subst he;have hok:=rW hx;have hg:=EB t (by simp only[] at htl;omega)
    have hst := @eu s t a n f nx h hx;have hof := @gB s t a n f nx h hx;have hbd := @gL s t a n f nx h hx;obtain⟨⟨r,g⟩,hq⟩:∃ x,gY t=x:=⟨_,rfl⟩;rw[hq] at hg hst hof hbd;simp only[Mt] at hg hst hbd hof;by_cases hz:g=0
    ·subst hz;by_cases ho:r.at_=nx
     ·simp only[hf,hst rfl ho];subst ho;have e3:bK f s n (r.at_+1)=bK (s.length+1-n) s n (r.at_+1):=wk _ _ n _ hok.2 (by omega) (by omega)
      rcases out with _|⟨x,out⟩
      ·simp only[List.length_nil] at hnx hout;(simp(disch:=first|decide|omega|(intros;exact aj rfl rfl)|simp only[aa]) only[iX,hn,hJ,hg,Rec.len,Rec.tk,Rec.tkL,Rec.dat,Rec.lenL,Rec.enc,List.map_cons,List.map_nil,List.getElem?_cons_zero,qA,qD,List.append_nil,go_sem,seval,ak,bI,A.kind,A.xs,aD,A.isN,iJ,↓cU,↓cE])
       rw[hr];(simp(disch:=first|decide|omega|(intros;exact aj rfl rfl)|simp only[aa]) only[iJ,go_sem,seval,ak,bI,A.kind,A.xs,aD,A.isN])
       (simp(disch:=first|decide|omega|(intros;exact aj rfl rfl)|simp only[aa]) only[go_sem,seval,ak,bI,A.kind,A.xs,aD,A.isN,iJ,↓cU,↓cE])
       have hR':=hR (n,r.at_+1,[(r,a)]) (by simp only[];omega) ⟨hok.2,by simp;omega,by simp;omega⟩
       simp only[List.singleton_append,<- e3] at hR';exact hR' _ _ cm
      ·simp only[List.length_cons] at hnx hout;(simp(disch:=first|decide|omega|(intros;exact aj rfl rfl)|simp only[aa]) only[iX,hn,hJ,hg,Rec.len,Rec.tk,Rec.tkL,Rec.dat,Rec.lenL,Rec.enc,List.map_cons,List.map_nil,List.getElem?_cons_zero,qA,qD,List.append_nil,go_sem,seval,ak,bI,A.kind,A.xs,aD,A.isN,iJ,↓cU,↓cE])
       rw[hr];(simp(disch:=first|decide|omega|(intros;exact aj rfl rfl)|simp only[aa]) only[iJ,go_sem,seval,ak,bI,A.kind,A.xs,aD,A.isN])
       (simp(disch:=first|decide|omega|(intros;exact aj rfl rfl)|simp only[aa]) only[go_sem,seval,ak,bI,A.kind,A.xs,aD,A.isN,iJ,↓cU,↓cE])
       have hR':=hR (n,r.at_+1,(x::out)++[(r,a)]) (by simp only[];omega) ⟨hok.2,by simp;omega,by simp;omega⟩
       simp only[List.append_assoc,List.singleton_append,<- e3,qA,qD,List.cons_append,List.length_cons,zA,List.length_nil,Nat.zero_add,List.map_cons,List.map_append,List.map_nil,Rec.enc] at hR';exact hR' _ _ cm
     ·simp only[hf,hof rfl ho];rcases out with _|⟨x,out⟩
      ·(simp(disch:=first|decide|omega|(intros;exact aj rfl rfl)|simp only[aa]) only[iX,hn,hJ,hg,Rec.len,Rec.tk,Rec.tkL,Rec.dat,Rec.lenL,Rec.enc,List.map_cons,List.map_nil,List.getElem?_cons_zero,qA,qD,List.append_nil,ho,go_sem,seval,ak,bI,A.kind,A.xs,aD,A.isN,iJ,↓cU,↓cE])
       rw[pP (q:=3) (k:=0) (by decide) rfl]
       (simp(disch:=first|decide|omega|(intros;exact aj rfl rfl)|simp only[aa]) only[iJ,Rec.len,Rec.tk,Rec.tkL,Rec.dat,Rec.lenL,Rec.enc,List.map_cons,List.map_nil,go_sem,seval,ak,bI,A.kind,A.xs,aD,A.isN,tL])
       simp[jO,Rec.enc]
      ·simp only[List.length_cons] at hnx hout;(simp(disch:=first|decide|omega|(intros;exact aj rfl rfl)|simp only[aa]) only[iX,hn,hJ,hg,Rec.len,Rec.tk,Rec.tkL,Rec.dat,Rec.lenL,Rec.enc,List.map_cons,List.map_nil,List.getElem?_cons_zero,qA,qD,List.append_nil,ho,go_sem,seval,ak,bI,A.kind,A.xs,aD,A.isN,iJ,↓cU,↓cE])
       rw[pP (q:=3) (k:=0) (by decide) rfl]
       (simp(disch:=first|decide|omega|(intros;exact aj rfl rfl)|simp only[aa]) only[iJ,Rec.len,Rec.tk,Rec.tkL,Rec.dat,Rec.lenL,Rec.enc,List.map_cons,List.map_nil,go_sem,seval,ak,bI,A.kind,A.xs,aD,A.isN,tL])
       simp[jO,Rec.enc]
    ·simp only[hf,hbd hz];rcases out with _|⟨x,out⟩
     ·(simp(disch:=first|decide|omega|(intros;exact aj rfl rfl)|simp only[aa]) only[iX,hn,hJ,hg,Rec.len,Rec.tk,Rec.tkL,Rec.dat,Rec.lenL,Rec.enc,List.map_cons,List.map_nil,List.getElem?_cons_zero,qA,qD,List.append_nil,hz,go_sem,seval,ak,bI,A.kind,A.xs,aD,A.isN,iJ,↓cU,↓cE])
      rw[pP (q:=3) (k:=0) (by decide) rfl]
      (simp(disch:=first|decide|omega|(intros;exact aj rfl rfl)|simp only[aa]) only[iJ,Rec.len,Rec.tk,Rec.tkL,Rec.dat,Rec.lenL,Rec.enc,List.map_cons,List.map_nil,go_sem,seval,ak,bI,A.kind,A.xs,aD,A.isN,tL])
      simp[jO,Rec.enc]
     ·simp only[List.length_cons] at hnx hout;(simp(disch:=first|decide|omega|(intros;exact aj rfl rfl)|simp only[aa]) only[iX,hn,hJ,hg,Rec.len,Rec.tk,Rec.tkL,Rec.dat,Rec.lenL,Rec.enc,List.map_cons,List.map_nil,List.getElem?_cons_zero,qA,qD,List.append_nil,hz,go_sem,seval,ak,bI,A.kind,A.xs,aD,A.isN,iJ,↓cU,↓cE])
      rw[pP (q:=3) (k:=0) (by decide) rfl]
      (simp(disch:=first|decide|omega|(intros;exact aj rfl rfl)|simp only[aa]) only[iJ,Rec.len,Rec.tk,Rec.tkL,Rec.dat,Rec.lenL,Rec.enc,List.map_cons,List.map_nil,go_sem,seval,ak,bI,A.kind,A.xs,aD,A.isN,tL])
      simp[jO,Rec.enc]
   ·simp only[hf,f9 h hx he];rcases out with _|⟨x,out⟩
    ·(simp(disch:=first|decide|omega|(intros;exact aj rfl rfl)|simp only[aa]) only[iX,hn,hJ,hg,Rec.len,Rec.tk,Rec.tkL,Rec.dat,Rec.lenL,Rec.enc,List.map_cons,List.map_nil,List.getElem?_cons_zero,qA,qD,List.append_nil,he,go_sem,seval,ak,bI,A.kind,A.xs,aD,A.isN,iJ,↓cU,↓cE])
     rw[pP (q:=3) (k:=0) (by decide) rfl]
     (simp(disch:=first|decide|omega|(intros;exact aj rfl rfl)|simp only[aa]) only[iJ,Rec.len,Rec.tk,Rec.tkL,Rec.dat,Rec.lenL,Rec.enc,List.map_cons,List.map_nil,go_sem,seval,ak,bI,A.kind,A.xs,aD,A.isN,tL])
     simp[jO,Rec.enc]
    ·simp only[List.length_cons] at hnx hout;(simp(disch:=first|decide|omega|(intros;exact aj rfl rfl)|simp only[aa]) only[iX,hn,hJ,hg,Rec.len,Rec.tk,Rec.tkL,Rec.dat,Rec.lenL,Rec.enc,List.map_cons,List.map_nil,List.getElem?_cons_zero,qA,qD,List.append_nil,he,go_sem,seval,ak,bI,A.kind,A.xs,aD,A.isN,iJ,↓cU,↓cE])
     rw[pP (q:=3) (k:=0) (by decide) rfl]
     (simp(disch:=first|decide|omega|(intros;exact aj rfl rfl)|simp only[aa]) only[iJ,Rec.len,Rec.tk,Rec.tkL,Rec.dat,Rec.lenL,Rec.enc,List.map_cons,List.map_nil,go_sem,seval,ak,bI,A.kind,A.xs,aD,A.isN,tL])
     simp[jO,Rec.enc]
  ·rw[fH h];have ea:a=s.length:=by omega
   rcases out with _|⟨x,out⟩
   ·(simp(disch:=first|decide|omega|(intros;exact aj rfl rfl)|simp only[aa]) only[iX,Rec.len,Rec.tk,Rec.tkL,Rec.dat,Rec.lenL,Rec.enc,List.map_cons,List.map_nil,List.getElem?_cons_zero,qA,qD,List.append_nil,ea,go_sem,seval,ak,bI,A.kind,A.xs,aD,A.isN,iJ,↓cU,↓cE])
    rw[FT (q:=3) (k:=0) (by decide) rfl]
    (simp(disch:=first|decide|omega|(intros;exact aj rfl rfl)|simp only[aa]) only[iJ,Rec.len,Rec.tk,Rec.tkL,Rec.dat,Rec.lenL,Rec.enc,List.map_cons,List.map_nil,go_sem,seval,ak,bI,A.kind,A.xs,aD,A.isN,tL])
    simp[jO,Rec.enc]
   ·simp only[List.length_cons] at hnx hout;(simp(disch:=first|decide|omega|(intros;exact aj rfl rfl)|simp only[aa]) only[iX,Rec.len,Rec.tk,Rec.tkL,Rec.dat,Rec.lenL,Rec.enc,List.map_cons,List.map_nil,List.getElem?_cons_zero,qA,qD,List.append_nil,ea,go_sem,seval,ak,bI,A.kind,A.xs,aD,A.isN,iJ,↓cU,↓cE])
    rw[FT (q:=3) (k:=0) (by decide) rfl]
    (simp(disch:=first|decide|omega|(intros;exact aj rfl rfl)|simp only[aa]) only[iJ,Rec.len,Rec.tk,Rec.tkL,Rec.dat,Rec.lenL,Rec.enc,List.map_cons,List.map_nil,go_sem,seval,ak,bI,A.kind,A.xs,aD,A.isN,tL])
    simp[jO,Rec.enc]
theorem xB {s:List UInt8}:∀ (f a:Nat) (b:Int),a<=s.length->(bK f s a b).1.length+a<=s.length:=by
 intro f;induction f with
 | zero=>intro a b h;simpa[bK] using h
 | succ f ih =>
  intro a b h;rcases Nat.lt_or_ge a s.length with hal|hal
  ·obtain⟨⟨t,n,e⟩,hx⟩:∃ x,gT s a=x:=⟨_,rfl⟩;by_cases he:e=0
   ·subst he;have:=rW hx;by_cases hg:(gY t).2=0
    ·by_cases ho:(gY t).1.at_=b
     ·rw[eu hal hx hg ho];have:=ih n (b+1) (by omega)
      simp only[List.length_cons];omega
     ·rw[gB hal hx hg ho];simpa using h
    ·rw[gL hal hx hg];simpa using h
   ·rw[f9 hal hx he];simpa using h
  ·rw[fH hal];simpa using h
theorem D8 (s:List UInt8) (b:Int):(ib s b).1.length<=s.length:=by
 unfold ib;split
 ·have:=xB (s:=s) (s.length+1) 0 b (zP _);omega
 ·simp
def numB (b:Int) (l:List Rec):Prop:=∀ k (h:k<l.length),l[k].at_=b+k
theorem CH {b:Int} {r:Rec} {l:List Rec} (h:numB b (r::l)):r.at_=b∧numB (b+1) l:=by
 constructor
 ·have:=h 0 (by simp);simpa using this
 ·intro k hk;have:=h (k+1) (by simpa using hk)
  simp only[List.getElem_cons_succ] at this;rw[this];omega
theorem pU (r:Rec) (l:List Rec):rowS (r::l)=aY (bE r)++rowS l:=rfl
theorem yA:∀ (l:List Rec) (p q:List UInt8) (f:Nat) (b:Int),(∀ r∈l,whyF r=0)->numB b l->l.length<=f ->
  (bK f (p++(rowS l++q)) p.length b).1.map (·.1)=l++(bK (f-l.length) (p++(rowS l++q)) (p++rowS l).length (b+l.length)).1.map (·.1) ∧
  (bK f (p++(rowS l++q)) p.length b).2=(bK (f-l.length) (p++(rowS l++q)) (p++rowS l).length (b+l.length)).2:=by
 intro l;induction l with
 | nil =>
  intro p q f b _ _ _;have:rowS []=[]:=rfl;simp[this]
 | cons r l ih =>
  intro p q f b hw hn hf;obtain⟨g,rfl⟩:∃ g,f=g+1:=⟨f-1,by simp at hf;omega⟩
  have w0:=hw r (List.mem_cons_self ..);have hfit:=kI.1 w0;have hb:=hfit.blen;have hp:=uu (bE r);have hx:=xG p (bE r) (rowS l++q) (by omega) (by omega)
  have hg:=Dj hfit;have hnn:=CH hn;have e0:p++(rowS (r::l)++q)=p++(aY (bE r)++(rowS l++q)):=by rw[pU];simp
  have e1:p++(aY (bE r)++(rowS l++q))=(p++aY (bE r))++(rowS l++q):=by simp
  have e2:(p++aY (bE r))++rowS l=p++rowS (r::l):=by rw[pU];simp
  have hlt:p.length<(p++(aY (bE r)++(rowS l++q))).length:=by simp;omega
  have:=ih (p++aY (bE r)) q g (b+1) (fun x hx=>hw x (List.mem_cons_of_mem _ hx)) hnn.2 (by simp at hf;omega)
  have hlen:(p++aY (bE r)).length=p.length+(aY (bE r)).length:=zA;rw[<- e1,e2,hlen] at this;rw[e0,eu hlt hx (by rw[hg]) (by rw[hg];exact hnn.1),hg]
  have e3:g+1-(r::l).length=g-l.length:=by simp
  have e4:b+((r::l).length:Int)=b+1+(l.length:Int):=by simp;omega
  rw[e3,e4];exact⟨by simp only[List.map_cons,this.1,List.cons_append],this.2⟩
theorem Bx:∀ l:List Rec,l.length<=(rowS l).length
 | []=>by simp
 | r::l=>by
  have:=Bx l;have hp:=uu (bE r);rw[pU,zA,List.length_cons];omega
theorem GN (l:List Rec) (b:Int) (hb:fp b=true) (hw:∀ r∈l,whyF r=0) (hn:numB b l):(ib (rowS l) b).1.map (·.1)=l∧(ib (rowS l) b).2=((rowS l).length,0):=by
 have hge:=Bx l;have h:=yA l [] [] ((rowS l).length+1) b hw hn (by omega)
 simp only[List.nil_append,List.append_nil,List.length_nil] at h;rw[fH (f:=(rowS l).length+1-l.length) (Nat.le_refl _)] at h;unfold ib;rw[if_pos hb];exact⟨by simpa using h.1,h.2⟩
abbrev Txt:=List UInt8
def bl (a b:Txt):Bool:=Op.bytesLess a b
theorem Hy (a:Txt):bl a []=false:=by cases a <;> rfl
theorem qQ (a b:UInt8) (x y:Txt):bl (a::x) (b::y)=(decide (a<b) || (a == b && bl x y)):=rfl
theorem kH:∀ a:Txt,bl a a=false
 | []=>rfl
 | a::x=>by rw[qQ,kH x];simp
theorem wF:∀ a b:Txt,bl a b=true∨a=b∨bl b a=true
 | [],[]=>.inr (.inl rfl)
 | [],_::_=>.inl rfl
 | _::_,[]=>.inr (.inr rfl)
 | a::x,b::y=>by
  rw[qQ,qQ];by_cases h:a=b
  ·subst h;rcases wF x y with h|h|h
   ·left;simp[h]
   ·right;left;rw[h]
   ·right;right;simp[h]
  ·rcases Nat.lt_or_ge a.toNat b.toNat with h2|h2
   ·left;have:a<b:=h2;simp[this]
   ·right;right
    have:b<a:=by
     show b.toNat<a.toNat;have:a.toNat≠b.toNat:=fun e=>h (UInt8.toNat_inj.1 e)
     omega
    simp[this]
theorem sC:∀ {a b c:Txt},bl a b=true->bl b c=true->bl a c=true
 | _,[],_,h,_=>by rw[Hy] at h;cases h
 | _,_::_,[],_,h=>by rw[Hy] at h;cases h
 | [],_::_,_::_,_,_=>rfl
 | a::x,b::y,c::z,h1,h2=>by
  rw[qQ] at *;simp only[Bool.or_eq_true,Bool.and_eq_true,decide_eq_true_eq,beq_iff_eq] at *;rcases h1 with h1|⟨rfl,h1⟩
  ·rcases h2 with h2|⟨rfl,h2⟩
   ·left;exact UInt8.lt_trans h1 h2
   ·left;exact h1
  ·rcases h2 with h2|⟨rfl,h2⟩
   ·left;exact h2
   ·right;exact⟨rfl,sC h1 h2⟩
theorem JX {a b:Txt} (h:bl a b=true):bl b a=false:=by
 cases h2:bl b a with
 | false=>rfl
 | true=>have:=sC h h2;rw[kH] at this;cases this
theorem wP {a b:Txt} (h:bl a b=true):a≠b:=fun e=>by rw[e,kH] at h;cases h
structure Fil where
 name:List UInt8
 data:List UInt8
 sure:Int
 deriving DecidableEq
def Fil.enc (e:Fil):List D:=[.s e.name,.s e.data,.i .i64 e.sure]
theorem Fil.len (e:Fil):e.enc.length=3:=Eq.trans rfl rfl
theorem Fil.tk (e:Fil):e.enc.take 3=e.enc:=Eq.trans rfl rfl
theorem Fil.tkL (e:Fil):(e.enc.map L.d).take 3=e.enc.map L.d:=Eq.trans rfl rfl
theorem Fil.lenL (e:Fil):(e.enc.map L.d).length=3:=Eq.trans rfl rfl
theorem Fil.at0 (e:Fil):e.enc[0]?=some (.s e.name):=Eq.trans rfl rfl
theorem Fil.at1 (e:Fil):(e.enc.drop 1)[0]?=some (.s e.data):=Eq.trans rfl rfl
theorem Fil.fd1 (e:Fil):(e.enc.map L.d)[1]?=some (zS e.data):=Eq.trans rfl rfl
theorem Fil.up1 (e:Fil) (x:List UInt8):e.enc.take 1++[.s x]++e.enc.drop 2=({ e with data:=x }:Fil).enc:=Eq.trans rfl rfl
theorem Fil.up2 (e:Fil) (x:Int):e.enc.take 2++[.i .i64 x]++e.enc.drop 3=({ e with sure:=x }:Fil).enc:=Eq.trans rfl rfl
def Fil.ok (e:Fil):Prop:=e.name.length<=9223372036854775807∧e.data.length<=9223372036854775807∧(-9223372036854775808<=e.sure∧e.sure<9223372036854775808)
def Fil.ty:List Ty:=[.s,.s,.i .i64]
structure Dsk where
 files:List Fil
 cap:Int
 armed:Bool
 left:Int
 down:Bool
def Dsk.l (d:Dsk):List L:=[.d (.l (d.files.map Fil.enc)),zI d.cap,zB d.armed,zI d.left,zB d.down]
def dm (s:Txt):Bool:=decide (s≠[]) && decide (s.length<=32)
theorem tp (s:Txt):call 150 [vs s] []=some (vb (dm s),[]):=by
 apply ah Rr rfl;by_cases h:s=[]
 ·subst h;have e:(([]:Txt) == [])=true:=rfl;(simp(disch:=first|decide|omega|(intros;exact aj rfl rfl)|simp only[aa]) only[HZ,e,go_sem,seval,ak])
  try rfl
 ·have e:(s == [])=false:=by rw[beq_eq_false_iff_ne];exact h
  by_cases h2:s.length<=32
  ·(simp(disch:=first|decide|omega|(intros;exact aj rfl rfl)|simp only[aa]) only[HZ,e,h2,go_sem,seval,ak])
   simp[dm,h,h2]
  ·(simp(disch:=first|decide|omega|(intros;exact aj rfl rfl)|simp only[aa]) only[HZ,e,h2,go_sem,seval,ak])
   simp[dm,h,h2]
def srt (l:List Fil):Prop:=l.Pairwise fun a b=>bl a.name b.name=true
def ax (l:List Fil) (n:Txt):Nat:=l.countP fun f=>bl f.name n
def bM (l:List Fil) (n:Txt):Bool:=match l[ax l n]? with|some f=>decide (f.name=n)|none=>false
theorem oM {α:Type} (p:α->Bool):∀ (l:List α),l.Pairwise (fun a b=>p b=true->p a=true)->∀ i (h:i<l.length),(p l[i]=true↔i<l.countP p)
 | [],_,i,h=>by simp at h
 | a::l,hp,i,h=>by
  rw[List.pairwise_cons] at hp;cases i with
  | zero =>
   rw[List.getElem_cons_zero,List.countP_cons];constructor
   ·intro h2;simp[h2]
   ·intro h2;by_cases hc:p a=true
    ·exact hc
    ·simp only[hc,Bool.false_eq_true,↓reduceIte,Nat.add_zero] at h2;rw[List.countP_pos_iff] at h2;obtain⟨b,hb,hpb⟩:=h2;exact hp.1 b hb hpb
  | succ i =>
   simp only[List.length_cons,Nat.add_lt_add_iff_right] at h;rw[List.getElem_cons_succ,oM p l hp.2 i h,List.countP_cons];by_cases hc:p a=true
   ·simp[hc]
   ·simp only[hc,Bool.false_eq_true,↓reduceIte,Nat.add_zero];constructor
    ·intro h2;exfalso;have:0<l.countP p:=by omega
     rw[List.countP_pos_iff] at this;obtain⟨b,hb,hpb⟩:=this;exact hc (hp.1 b hb hpb)
    ·intro h2;exfalso;have:0<l.countP p:=by omega
     rw[List.countP_pos_iff] at this;obtain⟨b,hb,hpb⟩:=this;exact hc (hp.1 b hb hpb)
theorem iq {l:List Fil} (hs:srt l) (n:Txt) (i:Nat) (h:i<l.length):bl l[i].name n=true↔i<ax l n :=
 oM (fun f=>bl f.name n) l (hs.imp fun hab hb=>sC hab hb) i h
theorem nr (l:List Fil) (n:Txt):ax l n<=l.length:=List.countP_le_length
def nK (a b:Txt):Int:=if bl a b=true then -1 else if bl b a=true then 1 else 0
theorem FW (f:Fil) (n:Txt):call 186 [.agg (f.enc.map .d),vs n] []=some (vi (nK f.name n),[]):=by
 apply ah Pv rfl;unfold nK bl;cases h:Op.bytesLess f.name n with
 | true =>
  (simp(disch:=first|decide|omega|(intros;exact aj rfl rfl)|simp only[aa]) only[JG,Fil.enc,List.map_cons,List.map_nil,h,go_sem,seval,ak])
  try simp
 | false =>
  rcases wF f.name n with h1|h1|h1
  ·unfold bl at h1;rw[h] at h1;cases h1
  ·have e:(f.name == n)=true:=by rw[h1];exact beq_self_eq_true _
   have h2:Op.bytesLess n f.name=false:=by rw[h1];exact kH n
   (simp(disch:=first|decide|omega|(intros;exact aj rfl rfl)|simp only[aa]) only[JG,Fil.enc,List.map_cons,List.map_nil,h,e,go_sem,seval,ak])
   try simp[h2]
  ·have e:(f.name == n)=false:=by rw[beq_eq_false_iff_ne];exact fun e=>wP h1 e.symm
   have h2:Op.bytesLess n f.name=true:=h1;(simp(disch:=first|decide|omega|(intros;exact aj rfl rfl)|simp only[aa]) only[JG,Fil.enc,List.map_cons,List.map_nil,h,e,go_sem,seval,ak])
   try simp[h2]
theorem O9 (f:Fil) (n:Txt) (H:Hp):au call 186 [.agg (f.enc.map .d),vs n] H=some (vi (nK f.name n),H):=callIso_pure rfl (FW f n) rfl
theorem qN (a b:Txt):nK a b<0↔bl a b=true:=by unfold nK;split <;> simp_all;split <;> omega
theorem oe {a b:Txt}:nK a b=0↔a=b:=by
 unfold nK;rcases wF a b with h|h|h
 ·simp[h,wP h]
 ·subst h;simp[kH]
 ·simp[h,JX h];exact fun e=>wP h e.symm
def cO (l:List Fil) (n:Txt):V:=.tup [(false,[zI (ax l n:Nat)]),(false,[zB (bM l n)])]
theorem IF (lo hi:Nat):Int.fdiv ((lo:Int)+(hi:Int)) 2=(((lo+hi) / 2:Nat):Int):=by
 rw[Int.fdiv_eq_ediv_of_nonneg _ (by decide)];omega
theorem wL (n:Int):cV .shr (.i .u64 n) (.i .u64 1)=some (.i .u64 (n.fdiv 2)):=rfl
theorem wb (l:List Fil) (hl:l.length<=1000000) (hs:srt l) (n:Txt):call 185 [vl (l.map Fil.enc),vs n,.one (.f 186 [])] []=some (cO l n,[]):=by
 apply ah NH rfl;have hc:=fun(f:Fil)=>O9 f n
 obtain⟨Z,hZ⟩:∃ Z:V × Hp,Z=(cO l n,[]):=⟨_,rfl⟩;rw[<- hZ];(simp(disch:=first|decide|omega|(intros;exact aj rfl rfl)|simp only[aa]) only[Lf,go_sem,seval,ak])
 refine aB (m:=0) (σ:=Nat × Nat) (fun t=>t.2-t.1) (fun t=>t.1<=ax l n∧ax l n<=t.2∧t.2<=l.length) (fun t=>[vl (l.map Fil.enc),vs n,.one (.f 186 []),vi l.length,vi t.1,vi t.2]) (fun t=>[])
  (fun t=>Z) ?_ (0,l.length) ⟨zP _,nr l n,Nat.le_refl _⟩ _ _ cm
 rintro⟨lo,hi⟩ ⟨h1,h2,h3⟩ R hR;simp only at h1 h2 h3 ⊢;by_cases c:lo<hi
 ·have hm:=IF lo hi;have hmid:(lo+hi) / 2<l.length:=by omega
  have hp:=iq hs n _ hmid;obtain⟨mid,hmd⟩:∃ mid,mid=(lo+hi) / 2:=⟨_,rfl⟩;simp only[<- hmd] at hm hmid hp;have g1:(l.map Fil.enc)[mid]?=some l[mid].enc:=by simp[hmid]
  by_cases c2:bl l[mid].name n=true
  ·have:=hp.1 c2;have hcn:nK l[mid].name n<0:=(qN _ _).2 c2;(simp(disch:=first|decide|omega|(intros;exact aj rfl rfl)|simp only[aa]) only[iQ,↓wL,hm,g1,Fil.len,Fil.tkL,Fil.tk,↓hc,hcn,go_sem,seval,ak])
   exact hR (mid+1,hi) (by simp only[];omega) ⟨by simp only[];omega,h2,h3⟩ _ _ cm
  ·have:¬ mid<ax l n:=fun h=>c2 (hp.2 h)
   have hcn:¬ nK l[mid].name n<0:=fun h=>c2 ((qN _ _).1 h)
   (simp(disch:=first|decide|omega|(intros;exact aj rfl rfl)|simp only[aa]) only[iQ,↓wL,hm,g1,Fil.len,Fil.tkL,Fil.tk,↓hc,hcn,go_sem,seval,ak])
   exact hR (lo,mid) (by simp only[];omega) ⟨h1,by simp only[];omega,by simp only[];omega⟩ _ _ cm
 ·have hlo:lo=ax l n:=by omega
  subst hlo;by_cases c0:ax l n<l.length
  ·have g1:(l.map Fil.enc)[ax l n]?=some l[ax l n].enc:=by simp[c0]
   have hhas:bM l n=decide (l[ax l n].name=n):=by unfold bM;rw[zE c0]
   by_cases c3:l[ax l n].name=n
   ·have hcz:nK l[ax l n].name n=0:=oe.2 c3;(simp(disch:=first|decide|omega|(intros;exact aj rfl rfl)|simp only[aa]) only[iQ,c,c0,g1,Fil.len,Fil.tkL,Fil.tk,↓hc,hcz,go_sem,seval,ak])
    rw[hZ];simp[cO,hhas,c3]
   ·have hcz:¬ nK l[ax l n].name n=0:=fun h=>c3 (oe.1 h)
    (simp(disch:=first|decide|omega|(intros;exact aj rfl rfl)|simp only[aa]) only[iQ,c,c0,g1,Fil.len,Fil.tkL,Fil.tk,↓hc,hcz,go_sem,seval,ak])
    rw[hZ];simp[cO,hhas,c3]
  ·have hhas:bM l n=false:=by unfold bM;rw[List.getElem?_eq_none (by omega)]
   (simp(disch:=first|decide|omega|(intros;exact aj rfl rfl)|simp only[aa]) only[iQ,c,c0,go_sem,seval,ak])
   rw[hZ];simp[cO,hhas]
theorem wV (l:List Fil) (hl:l.length<=1000000) (hs:srt l) (n:Txt):call 185 [.one (.sl 0 3 0 l.length),vs n,.one (.f 186 [])] [.arr 3 (l.map Fil.enc) 0]=some (cO l n,[.arr 3 (l.map Fil.enc) 0]):=by
 apply ah NH rfl;have hc:=fun(f:Fil)=>O9 f n
 obtain⟨Z,hZ⟩:∃ Z:V × Hp,Z=(cO l n,[.arr 3 (l.map Fil.enc) 0]):=⟨_,rfl⟩;rw[<- hZ];(simp(disch:=first|decide|omega|(intros;exact aj rfl rfl)|simp only[aa]) only[Lf,go_sem,seval,ak])
 refine aB (m:=1) (σ:=Nat × Nat) (fun t=>t.2-t.1) (fun t=>t.1<=ax l n∧ax l n<=t.2∧t.2<=l.length) (fun t=>[V.one (.sl 0 3 0 l.length),vs n,.one (.f 186 []),vi l.length,vi t.1,vi t.2]) (fun t=>[.arr 3 (l.map Fil.enc) 0])
  (fun t=>Z) ?_ (0,l.length) ⟨zP _,nr l n,Nat.le_refl _⟩ _ _ cm
 rintro⟨lo,hi⟩ ⟨h1,h2,h3⟩ R hR;simp only at h1 h2 h3 ⊢;by_cases c:lo<hi
 ·have hm:=IF lo hi;have hmid:(lo+hi) / 2<l.length:=by omega
  have hp:=iq hs n _ hmid;obtain⟨mid,hmd⟩:∃ mid,mid=(lo+hi) / 2:=⟨_,rfl⟩;simp only[<- hmd] at hm hmid hp;have g1:(l.map Fil.enc)[mid]?=some l[mid].enc:=by simp[hmid]
  by_cases c2:bl l[mid].name n=true
  ·have:=hp.1 c2;have hcn:nK l[mid].name n<0:=(qN _ _).2 c2;(simp(disch:=first|decide|omega|(intros;exact aj rfl rfl)|simp only[aa]) only[iQ,↓wL,hm,g1,Fil.len,Fil.tkL,Fil.tk,↓hc,hcn,go_sem,seval,ak])
   exact hR (mid+1,hi) (by simp only[];omega) ⟨by simp only[];omega,h2,h3⟩ _ _ cm
  ·have:¬ mid<ax l n:=fun h=>c2 (hp.2 h)
   have hcn:¬ nK l[mid].name n<0:=fun h=>c2 ((qN _ _).1 h)
   (simp(disch:=first|decide|omega|(intros;exact aj rfl rfl)|simp only[aa]) only[iQ,↓wL,hm,g1,Fil.len,Fil.tkL,Fil.tk,↓hc,hcn,go_sem,seval,ak])
   exact hR (lo,mid) (by simp only[];omega) ⟨h1,by simp only[];omega,by simp only[];omega⟩ _ _ cm
 ·have hlo:lo=ax l n:=by omega
  subst hlo;by_cases c0:ax l n<l.length
  ·have g1:(l.map Fil.enc)[ax l n]?=some l[ax l n].enc:=by simp[c0]
   have hhas:bM l n=decide (l[ax l n].name=n):=by unfold bM;rw[zE c0]
   by_cases c3:l[ax l n].name=n
   ·have hcz:nK l[ax l n].name n=0:=oe.2 c3;(simp(disch:=first|decide|omega|(intros;exact aj rfl rfl)|simp only[aa]) only[iQ,c,c0,g1,Fil.len,Fil.tkL,Fil.tk,↓hc,hcz,go_sem,seval,ak])
    rw[hZ];simp[cO,hhas,c3,trim,V.refs,L.refs,Box.refs]
   ·have hcz:¬ nK l[ax l n].name n=0:=fun h=>c3 (oe.1 h)
    (simp(disch:=first|decide|omega|(intros;exact aj rfl rfl)|simp only[aa]) only[iQ,c,c0,g1,Fil.len,Fil.tkL,Fil.tk,↓hc,hcz,go_sem,seval,ak])
    rw[hZ];simp[cO,hhas,c3,trim,V.refs,L.refs,Box.refs]
  ·have hhas:bM l n=false:=by unfold bM;rw[List.getElem?_eq_none (by omega)]
   (simp(disch:=first|decide|omega|(intros;exact aj rfl rfl)|simp only[aa]) only[iQ,c,c0,go_sem,seval,ak])
   rw[hZ];simp[cO,hhas,trim,V.refs,L.refs,Box.refs]
theorem DO (l:List Fil) (hl:l.length<=1000000) (hs:srt l) (n:Txt):call 172 [vl (l.map Fil.enc),vs n] []=some (cO l n,[]):=by
 apply ah NC rfl;have h:∀ H,au call 185 [vl (l.map Fil.enc),vs n,.one (.f 186 [])] H=some (cO l n,H):=fun H=>callIso_pure rfl (wb l hl hs n) rfl
 unfold cO at h ⊢;(simp(disch:=first|decide|omega|(intros;exact aj rfl rfl)|simp only[aa]) only[KE,↓h,go_sem,seval,ak])
 try simp[trim]
theorem oD (l:List Fil) (hl:l.length<=1000000) (hs:srt l) (n:Txt):call 172 [.one (.sl 0 3 0 l.length),vs n] [.arr 3 (l.map Fil.enc) 0]=some (cO l n,[.arr 3 (l.map Fil.enc) 0]):=by
 apply ah NC rfl;have h:au call 185 [.one (.sl 0 3 0 l.length),vs n,.one (.f 186 [])] [.arr 3 (l.map Fil.enc) 0]=some (cO l n,[.arr 3 (l.map Fil.enc) 0]) :=
  aE (ids:=[0]) rfl rfl rfl (wV l hl hs n) rfl
 unfold cO at h ⊢;(simp(disch:=first|decide|omega|(intros;exact aj rfl rfl)|simp only[aa]) only[KE,↓h,go_sem,seval,ak])
 simp[zR]
def bZ (l:List Fil) (n:Txt):Txt × Int:=match l[ax l n]? with|some f=>if f.name=n then(f.data,0) else([],7)|none=>([],7)
theorem o5 (d:Dsk) (hl:d.files.length<=1000000) (hs:srt d.files) (n:Txt):call 146 [.agg d.l,vs n] []=some (.tup [(false,[.d (.s (bZ d.files n).1)]),(false,[.d (.i .i64 (bZ d.files n).2)])],[]):=by
 apply ah PL rfl;have h:=DO d.files hl hs n;unfold cO bM at h;unfold bZ;by_cases c:ax d.files n<d.files.length
 ·rw[zE c] at h ⊢;have g1:(d.files.map Fil.enc)[ax d.files n]?=some d.files[ax d.files n].enc:=by simp[c]
  by_cases c2:d.files[ax d.files n].name=n
  ·simp only[c2,decide_true] at h;(simp(disch:=first|decide|omega|(intros;exact aj rfl rfl)|simp only[aa]) only[Ia,Dsk.l,h,g1,Fil.len,Fil.tkL,Fil.tk,Fil.at1,go_sem,seval,ak])
   simp[c2]
  ·simp only[c2,decide_false] at h;(simp(disch:=first|decide|omega|(intros;exact aj rfl rfl)|simp only[aa]) only[Ia,Dsk.l,h,go_sem,seval,ak])
   simp[c2]
 ·rw[List.getElem?_eq_none (by omega)] at h ⊢
  (simp(disch:=first|decide|omega|(intros;exact aj rfl rfl)|simp only[aa]) only[Ia,Dsk.l,h,go_sem,seval,ak])
  try simp
def usedF (l:List Fil):Nat:=(l.map fun f=>f.data.length).sum
theorem cK (a b:List Fil):usedF (a++b)=usedF a+usedF b:=by unfold usedF;rw[List.map_append,List.sum_append]
theorem gI (f:Fil):usedF [f]=f.data.length:=by simp[usedF]
theorem mn (l:List Fil) (i:Nat):usedF (l.take i)<=usedF l:=by
 have:=cK (l.take i) (l.drop i);rw[zY] at this;omega
theorem Ec (d:Dsk) (hl:d.files.length<=1000000) (hu:usedF d.files<=1000000000000):call 142 [.agg d.l] []=some (vi (usedF d.files:Nat),[]):=by
 apply ah Rf rfl;(simp(disch:=first|decide|omega|(intros;exact aj rfl rfl)|simp only[aa]) only[Ou,Dsk.l,go_sem,seval,ak])
 refine aB (m:=0) (σ:=Nat) (fun i=>d.files.length-i) (fun i=>i<=d.files.length) (fun i=>[vi (usedF (d.files.take i):Nat),vl (d.files.map Fil.enc),vi d.files.length,vi i]) (fun i=>[])
  (fun t=>(vi (usedF d.files:Nat),[])) ?_ 0 (zP _) _ _ ?_
 rotate_left
 ·exact cm
 intro i hi R hR;have hle:=mn d.files i;by_cases c:i<d.files.length
 ·have hR':=hR (i+1) (by omega) (by omega)
  have e1:usedF (d.files.take (i+1))=usedF (d.files.take i)+d.files[i].data.length:=by
   rw[zO c,cK,gI]
  have hle2:=mn d.files (i+1);have g1:(d.files.map Fil.enc)[i]?=some d.files[i].enc:=by simp[c]
  rw[e1] at hR' hle2;generalize usedF (d.files.take i)=u at *;(simp(disch:=first|decide|omega|(intros;exact aj rfl rfl)|simp only[aa]) only[y9,g1,Fil.len,Fil.tkL,Fil.tk,Fil.at1,Fil.fd1,Fil.lenL,zM,go_sem,seval,ak])
  exact hR' _ _ cm
 ·have hi2:i=d.files.length:=by omega
  subst hi2;rw[List.take_length];(simp(disch:=first|decide|omega|(intros;exact aj rfl rfl)|simp only[aa]) only[y9,go_sem,seval,ak])
  try simp[trim]
end Go.Proofs.YtgoifbjgmgbihaaGreat
