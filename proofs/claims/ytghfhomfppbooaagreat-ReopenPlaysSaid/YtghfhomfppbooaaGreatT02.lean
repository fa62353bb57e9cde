import Derived.Test.YtghfhomfppbooaaGreatXZ14Tab
import Derived.Test.YtghfhomfppbooaaGreatVie
set_option linter.unusedSimpArgs false
set_option linter.unusedVariables false
set_option maxRecDepth 20000
set_option maxHeartbeats 16000000
namespace Go.Proofs.YtghfhomfppbooaaGreat
open Go.Vi
theorem y6 (sum:gy) (s:List UInt8) (hs:s.length<=9223372036854775807):call 66 [vk .u32 ((sum.toNat:Nat):Int),vs s] []=some (vk .u32 (((bF sum s).toNat:Nat):Int),[]):=by
 apply ah OA rfl;(simp(disch:=first|decide|omega|(intros;exact aj rfl rfl)|simp only[aa]) only[NR,↓iX,go_sem,seval,ai])
 refine gT (σ:=Nat) (fun k=>s.length-k) (fun k=>k<=s.length) (fun k=>[vs s,vk .u32 ((((s.take k).foldl ni (~~~sum)).toNat:Nat):Int),vi k]) (fun _=>(vk .u32 (((bF sum s).toNat:Nat):Int),[])) (fun _=>by simp only[go_sem,seval]) ?_ 0 (zP _) _ (by simp[go_sem,seval])
 intro k hk R hR;rcases Nat.lt_or_ge k s.length with h|h
 ·(simp(disch:=first|decide|omega|(intros;exact aj rfl rfl)|simp only[aa]) only[Em,↓iX,ly s k h,rj,go_sem,seval,ai])
  have e1:(s.take (k+1)).foldl ni (~~~sum)=ni ((s.take k).foldl ni (~~~sum)) s[k]:=by rw[fY s k h,List.foldl_append];rfl
  generalize (s.take k).foldl ni (~~~sum)=x at *;refine gT (σ:=Nat) (fun j=>8-j) (fun j=>j<=8) (fun j=>[vs s,vk .u32 (((d6 j (x ^^^ BitVec.ofNat 32 s[k].toNat)).toNat:Nat):Int),vi k,vi j]) (fun _=>(vk .u32 (((bF sum s).toNat:Nat):Int),[])) (fun _=>by simp only[go_sem,seval]) ?_ 0 (zP _) _ (by simp[d6,go_sem,seval])
  intro j hj R2 hR2;rcases Nat.lt_or_ge j 8 with hj8|hj8
  ·have e2:d6 (j+1) (x ^^^ BitVec.ofNat 32 s[k].toNat)=jw (d6 j (x ^^^ BitVec.ofNat 32 s[k].toNat)):=nE j 1 _;generalize d6 j (x ^^^ BitVec.ofNat 32 s[k].toNat)=y at *;cases hb:y.getLsbD 0 with
   | true =>
    have e3:jw y=(y >>> 1) ^^^ crcP:=by unfold jw;rw[hb];rfl
    (simp(disch:=first|decide|omega|(intros;exact aj rfl rfl)|simp only[aa]) only[ww,↓iX,hb,go_sem,seval,ai])
    exact hR2 (j+1) (by omega) (by omega) _ (by simp[e2,e3,go_sem,seval])
   | false =>
    have e3:jw y=y >>> 1:=by unfold jw;rw[hb];rfl
    (simp(disch:=first|decide|omega|(intros;exact aj rfl rfl)|simp only[aa]) only[ww,↓iX,hb,go_sem,seval,ai])
    exact hR2 (j+1) (by omega) (by omega) _ (by simp[e2,e3,go_sem,seval])
  ·have:j=8:=by omega
   subst this;(simp(disch:=first|decide|omega|(intros;exact aj rfl rfl)|simp only[aa]) only[ww,go_sem,seval,ai])
   exact hR (k+1) (by omega) (by omega) _ (by simp[e1,ni,go_sem,seval])
 ·(simp(disch:=first|decide|omega|(intros;exact aj rfl rfl)|simp only[aa]) only[Em,↓iX,go_sem,seval,ai])
  rw[zL h];rfl
theorem mI (s:List UInt8) (hs:s.length<=9223372036854775807):call 31 [vs s] []=some (vk .u32 (((bF 0#32 s).toNat:Nat):Int),[]):=by
 apply ah N2 rfl;have h:call 66 [vk .u32 0,vs s] []=some (vk .u32 (((bF 0#32 s).toNat:Nat):Int),[]):=y6 0#32 s hs;(simp(disch:=first|decide|omega|(intros;exact aj rfl rfl)|simp only[aa]) only[Nt,h,go_sem,seval,ai])
theorem oQ (x:gy):call 126 [vk .u32 ((x.toNat:Nat):Int)] []=some (vs (co x),[]):=by
 apply ah MU rfl;(simp(disch:=first|decide|omega|(intros;exact aj rfl rfl)|simp only[aa]) only[Ko,↓iX,gP,iL,fc,qL,co,List.replicate,go_sem,seval,ai])
theorem nD (x:gy):call 113 [vk .u32 ((x.toNat:Nat):Int)] []=some (vs (co x),[]):=by
 apply ah L9 rfl;(simp(disch:=first|decide|omega|(intros;exact aj rfl rfl)|simp only[aa]) only[Lh,↓iX,gP,iL,fc,qL,co,List.replicate,go_sem,seval,ai])
theorem yu:call 143 [] []=some (.agg tabW,[]):=by
 apply ah MG rfl;(simp(disch:=first|decide|omega|(intros;exact aj rfl rfl)|simp only[aa]) only[Ka,go_sem,seval,ai])
 refine gY (σ:=Nat) (fun k=>16-k) (fun k=>k<=16) (fun k=>[.one (.p 0 0),.one (.p 1 0),vi k]) (fun k=>[.cells (gG 0),.cells (gG k)]) (fun _=>(V.agg tabW,([]:Hp))) ?_ 0 (zP _) _ _ ?_
 ·intro k hk R hR;rcases Nat.lt_or_ge k 16 with h|h
  ·(simp(disch:=first|decide|omega|(intros;exact aj rfl rfl)|simp only[aa]) only[xW,↓iX,go_sem,seval,ai])
   have e0:k % 4294967296=k:=Nat.mod_eq_of_lt (by omega)
   refine gY (σ:=Nat) (fun j=>4-j) (fun j=>j<=4) (fun j=>[.one (.p 0 0),.one (.p 1 0),vi k,vk .u32 (((d6 j (BitVec.ofNat 32 k)).toNat:Nat):Int),vi k,vi j]) (fun _=>[.cells (gG 0),.cells (gG k)]) (fun _=>(V.agg tabW,([]:Hp))) ?_ 0 (zP _) _ _ ?_
   ·intro j hj R2 hR2;rcases Nat.lt_or_ge j 4 with hj4|hj4
    ·have e2:d6 (j+1) (BitVec.ofNat 32 k)=jw (d6 j (BitVec.ofNat 32 k)):=nE j 1 _;generalize d6 j (BitVec.ofNat 32 k)=y at *;(simp(disch:=first|decide|omega|(intros;exact aj rfl rfl)|simp only[aa]) only[uW,↓iX,↓LW,↓A6,<- lx,go_sem,seval,ai])
     exact hR2 (j+1) (by omega) (by omega) _ _ (at_head2 (by decide) (by simp only[List.map_cons,List.map_nil,go_sem,seval];exact rfl) (by simp[aL,aI,ay,aJ,ax,V.ren,L.ren,Box.ren,V.refs,L.refs,Box.refs,e2,fT,im]) (by simp[aL,aI,ay,aJ,ax,V.ren,L.ren,Box.ren,V.refs,L.refs,Box.refs,e2,fT,im]))
    ·have:j=4:=by omega
     subst this;(simp(disch:=first|decide|omega|(intros;exact aj rfl rfl)|simp only[aa]) only[uW,↓iX,kL,D4 k h,go_sem,seval,ai])
     exact hR (k+1) (by omega) (by omega) _ _ (at_head2 (by decide) (by simp only[List.map_cons,List.map_nil,go_sem,seval];exact rfl) (by simp[aL,aI,ay,aJ,ax,V.ren,L.ren,Box.ren,V.refs,L.refs,Box.refs,fT,im]) (by simp[aL,aI,ay,aJ,ax,V.ren,L.ren,Box.ren,V.refs,L.refs,Box.refs,fT,im]))
   ·exact(at_head2 (by decide) (by simp only[List.map_cons,List.map_nil,go_sem,seval];exact rfl) (by simp[aL,aI,ay,aJ,ax,V.ren,L.ren,Box.ren,V.refs,L.refs,Box.refs,d6,fT,im,e0]) (by simp[aL,aI,ay,aJ,ax,V.ren,L.ren,Box.ren,V.refs,L.refs,Box.refs,d6,fT,im,e0]))
  ·have:k=16:=by omega
   subst this;have ed:(gG 0).drop 16=[]:=zC (by rw[kL];exact Nat.le_refl _)
   have et:tabW.take 16=tabW:=zL (by rw[qK];exact Nat.le_refl _)
   (simp(disch:=first|decide|omega|(intros;exact aj rfl rfl)|simp only[aa]) only[xW,↓iX,tP,qK,kL,ed,et,HJ,tabW_pure,go_sem,seval,ai])
 ·exact(at_head2 (by decide) (by simp only[List.map_cons,List.map_nil,go_sem,seval];exact rfl) (by simp[aL,aI,ay,aJ,ax,V.ren,L.ren,Box.ren,V.refs,L.refs,Box.refs,EO]) (by simp[aL,aI,ay,aJ,ax,V.ren,L.ren,Box.ren,V.refs,L.refs,Box.refs,EO]))
theorem Gz (sum:gy) (s:List UInt8) (hs:s.length<=9223372036854775807):call 135 [vk .u32 ((sum.toNat:Nat):Int),vs s] []=some (vk .u32 (((bF sum s).toNat:Nat):Int),[]):=by
 apply ah Mm rfl;have e16:tabW.length=16:=qK;(simp(disch:=first|decide|omega|(intros;exact aj rfl rfl)|simp only[aa]) only[KJ,↓iX,yu,e16,List.append_nil,go_sem,seval,ai])
 refine gY (σ:=Nat) (fun k=>s.length-k) (fun k=>k<=s.length) (fun k=>[vs s,.one (.p 0 0),vk .u32 ((((s.take k).foldl ni (~~~sum)).toNat:Nat):Int),vi s.length,vi k]) (fun _=>[.cells tabW]) (fun _=>(vk .u32 (((bF sum s).toNat:Nat):Int),([]:Hp))) ?_ 0 (zP _) _ _ (at_head2 (by decide) (by simp only[List.map_cons,List.map_nil,go_sem,seval];exact rfl) (by simp[aL,aI,ay,aJ,ax,V.ren,L.ren,Box.ren,V.refs,L.refs,Box.refs,lE,nt]) (by simp[aL,aI,ay,aJ,ax,V.ren,L.ren,Box.ren,V.refs,L.refs,Box.refs,lE,nt]))
 intro k hk R hR;rcases Nat.lt_or_ge k s.length with h|h
 ·have e1:(s.take (k+1)).foldl ni (~~~sum)=ni ((s.take k).foldl ni (~~~sum)) s[k]:=by rw[fY s k h,List.foldl_append];rfl
  rw[GO] at e1;generalize (s.take k).foldl ni (~~~sum)=x at *;have l1:=vO (x ^^^ BitVec.ofNat 32 s[k].toNat);have l2:=vO (((x ^^^ BitVec.ofNat 32 s[k].toNat) >>> 4) ^^^ d6 4 ((x ^^^ BitVec.ofNat 32 s[k].toNat) &&& 15#32));(simp(disch:=first|decide|omega|(intros;exact aj rfl rfl)|simp only[aa]) only[yU,↓iX,ly s k h,rj,Ge,go_sem,seval,ai])
  exact hR (k+1) (by omega) (by omega) _ _ (at_head2 (by decide) (by simp only[List.map_cons,List.map_nil,go_sem,seval];exact rfl) (by simp[aL,aI,ay,aJ,ax,V.ren,L.ren,Box.ren,V.refs,L.refs,Box.refs,lE,nt,e1]) (by simp[aL,aI,ay,aJ,ax,V.ren,L.ren,Box.ren,V.refs,L.refs,Box.refs,lE,nt,e1]))
 ·(simp(disch:=first|decide|omega|(intros;exact aj rfl rfl)|simp only[aa]) only[yU,↓iX,go_sem,seval,ai])
  rw[zL h];rfl
def rh (l:List (List UInt8)):gy:=l.foldl bF 0#32
def F1 (s:List UInt8):List D:=[.s s]
theorem CK (s:List UInt8):(F1 s).length=1:=Eq.trans rfl rfl
theorem GR (s:List UInt8):(F1 s)[0]?=some (.s s):=Eq.trans rfl rfl
theorem w8 (l:List (List UInt8)) (hl:l.length<=9223372036854775807) (hs:∀ s∈l,s.length<=9223372036854775807):call 106 [vl (l.map F1)] []=some (vk .u32 (((rh l).toNat:Nat):Int),[]):=by
 apply ah ME rfl;(simp(disch:=first|decide|omega|(intros;exact aj rfl rfl)|simp only[aa]) only[Lk,go_sem,seval,ai])
 refine gT (σ:=Nat) (fun k=>l.length-k) (fun k=>k<=l.length) (fun k=>[vk .u32 ((((l.take k).foldl bF 0#32).toNat:Nat):Int),vl (l.map F1),vi l.length,vi k]) (fun _=>(vk .u32 (((rh l).toNat:Nat):Int),[])) (fun _=>by simp only[go_sem,seval]) ?_ 0 (zP _) _ (by simp[go_sem,seval])
 intro k hk R hR;rcases Nat.lt_or_ge k l.length with h|h
 ·have e1:(l.take (k+1)).foldl bF 0#32=bF ((l.take k).foldl bF 0#32) l[k]:=by rw[fY l k h,List.foldl_append];rfl
  have ho:=Gz ((l.take k).foldl bF 0#32) l[k] (hs _ (zN h));(simp(disch:=first|decide|omega|(intros;exact aj rfl rfl)|simp only[aa]) only[xC,CK,GR,ho,go_sem,seval,ai])
  exact hR (k+1) (by omega) (by omega) _ (by simp[e1,go_sem,seval])
 ·(simp(disch:=first|decide|omega|(intros;exact aj rfl rfl)|simp only[aa]) only[xC,go_sem,seval,ai])
  rw[zL h];rfl
theorem tR (x:gy) (a b:List UInt8):bF x (a++b)=bF (bF x a) b:=by
 simp only[bF,List.foldl_append,BitVec.not_not]
theorem F9 (a b:List UInt8):rh [a,b]=bF 0#32 (a++b):=by simp only[rh,List.foldl_cons,List.foldl_nil,tR]
theorem yp (n:Nat) (hn:n<18446744073709551616):call 149 [vk .u64 ((n:Nat):Int)] []=some (vi (blen n),[]):=by
 apply ah M8 rfl;have last:∀ m:Nat,m<256->IntKind.u8.wrap ((m:Nat):Int)=((m:Nat):Int):=fun m h=>pV (by omega)
 have tab:∀ m:Nat,m<256->IntKind.i64.wrap (((UInt8.ofNat (blen m)).toNat:Nat):Int)=((blen m:Nat):Int):=fun m h=>by
  rw[yi h];have:=(fA m 8).2 h;exact fR (by omega)
 have b8:∀ m:Nat,m<256->blen m<=8:=fun m h=>(fA m 8).2 h
 by_cases c0:4294967296<=n
 ·have e0:=em (n) 32 c0;simp only[Nat.reducePow] at e0;by_cases c1:65536<=n / 4294967296
  ·have e1:=em (n / 4294967296) 16 c1;simp only[Nat.reducePow] at e1;by_cases c2:256<=n / 4294967296 / 65536
   ·have e2:=em (n / 4294967296 / 65536) 8 c2;simp only[Nat.reducePow] at e2;have hm:n / 4294967296 / 65536 / 256<256:=by omega
    have:=b8 _ hm;have e:((blen n:Nat):Int)=32+16+8+((blen (n / 4294967296 / 65536 / 256):Nat):Int):=by omega
    rw[e];(simp(disch:=first|decide|omega|(intros;exact aj rfl rfl)|simp only[aa]) only[tZ,↓gh,↓gk,↓i0,last _ hm,f8 _ hm,tab _ hm,Int.zero_add,go_sem,seval,ai])
   ·skip
    have hm:n / 4294967296 / 65536<256:=by omega
    have:=b8 _ hm;have e:((blen n:Nat):Int)=32+16+((blen (n / 4294967296 / 65536):Nat):Int):=by omega
    rw[e];(simp(disch:=first|decide|omega|(intros;exact aj rfl rfl)|simp only[aa]) only[tZ,↓gh,↓gk,↓i0,last _ hm,f8 _ hm,tab _ hm,Int.zero_add,go_sem,seval,ai])
  ·skip
   by_cases c2:256<=n / 4294967296
   ·have e2:=em (n / 4294967296) 8 c2;simp only[Nat.reducePow] at e2;have hm:n / 4294967296 / 256<256:=by omega
    have:=b8 _ hm;have e:((blen n:Nat):Int)=32+8+((blen (n / 4294967296 / 256):Nat):Int):=by omega
    rw[e];(simp(disch:=first|decide|omega|(intros;exact aj rfl rfl)|simp only[aa]) only[tZ,↓gh,↓gk,↓i0,last _ hm,f8 _ hm,tab _ hm,Int.zero_add,go_sem,seval,ai])
   ·skip
    have hm:n / 4294967296<256:=by omega
    have:=b8 _ hm;have e:((blen n:Nat):Int)=32+((blen (n / 4294967296):Nat):Int):=by omega
    rw[e];(simp(disch:=first|decide|omega|(intros;exact aj rfl rfl)|simp only[aa]) only[tZ,↓gh,↓gk,↓i0,last _ hm,f8 _ hm,tab _ hm,Int.zero_add,go_sem,seval,ai])
 ·skip
  by_cases c1:65536<=n
  ·have e1:=em (n) 16 c1;simp only[Nat.reducePow] at e1;by_cases c2:256<=n / 65536
   ·have e2:=em (n / 65536) 8 c2;simp only[Nat.reducePow] at e2;have hm:n / 65536 / 256<256:=by omega
    have:=b8 _ hm;have e:((blen n:Nat):Int)=16+8+((blen (n / 65536 / 256):Nat):Int):=by omega
    rw[e];(simp(disch:=first|decide|omega|(intros;exact aj rfl rfl)|simp only[aa]) only[tZ,↓gh,↓gk,↓i0,last _ hm,f8 _ hm,tab _ hm,Int.zero_add,go_sem,seval,ai])
   ·skip
    have hm:n / 65536<256:=by omega
    have:=b8 _ hm;have e:((blen n:Nat):Int)=16+((blen (n / 65536):Nat):Int):=by omega
    rw[e];(simp(disch:=first|decide|omega|(intros;exact aj rfl rfl)|simp only[aa]) only[tZ,↓gh,↓gk,↓i0,last _ hm,f8 _ hm,tab _ hm,Int.zero_add,go_sem,seval,ai])
  ·skip
   by_cases c2:256<=n
   ·have e2:=em (n) 8 c2;simp only[Nat.reducePow] at e2;have hm:n / 256<256:=by omega
    have:=b8 _ hm;have e:((blen n:Nat):Int)=8+((blen (n / 256):Nat):Int):=by omega
    rw[e];(simp(disch:=first|decide|omega|(intros;exact aj rfl rfl)|simp only[aa]) only[tZ,↓gh,↓gk,↓i0,last _ hm,f8 _ hm,tab _ hm,Int.zero_add,go_sem,seval,ai])
   ·skip
    have hm:n<256:=by omega
    have:=b8 _ hm;have e:((blen n:Nat):Int)=((blen (n):Nat):Int):=by omega
    rw[e];(simp(disch:=first|decide|omega|(intros;exact aj rfl rfl)|simp only[aa]) only[tZ,↓gh,↓gk,↓i0,last _ hm,f8 _ hm,tab _ hm,Int.zero_add,go_sem,seval,ai])
theorem EN (n:Nat) (hn:n<9223372036854775808):call 142 [vi n] []=some (vi (nd n),[]):=by
 apply ah Mz rfl;have h64:=yp n (by omega)
 have hb:blen n<=63:=(fA n 63).2 (by omega)
 have hq:(((blen n:Nat):Int)+6).tdiv 7=(((blen n+6) / 7:Nat):Int):=by rw[Int.tdiv_eq_ediv_of_nonneg (by omega)];omega
 have hm:=GM n;by_cases c:1<(blen n+6) / 7
 ·have e:nd n=(blen n+6) / 7:=by omega
  rw[e];(simp(disch:=first|decide|omega|(intros;exact aj rfl rfl)|simp only[aa]) only[I9,h64,hq,go_sem,seval,ai])
 ·have e:nd n=1:=by omega
  have c':¬ (((blen n+6) / 7:Nat):Int) > 1:=by omega
  rw[e];(simp(disch:=first|decide|omega|(intros;exact aj rfl rfl)|simp only[aa]) only[I9,h64,hq,if_neg c',go_sem,seval,ai])
  try rfl
theorem vR (n:Nat) (hn:n<9223372036854775808):call 124 [vi n] []=some (vs (au n),[]):=by
 apply ah Mf rfl;have hl:=EN n hn;have h9:=gv hn;obtain⟨m,hm⟩:∃ m,nd n=m+1:=⟨nd n-1,by have:=fD n;omega⟩
 have hlast:=Bf n m hm;have hlt:n / 128 ^ m<128:=by
  have:=((ee m n).1 hm).1;rw[Nat.div_lt_iff_lt_mul (Nat.pow_pos (by decide))]
  rwa [Nat.pow_succ,Nat.mul_comm] at this
 rw[hm] at hl h9;(simp(disch:=first|decide|omega|(intros;exact aj rfl rfl)|simp only[aa]) only[K8,hl,Int.mul_one,go_sem,seval,ai])
 refine gY (σ:=Nat) (fun k=>m+1-k) (fun k=>k<=m+1) (fun k=>[vi n,.one (.sl 0 1 0 (m+1)),vi ((m+1:Nat):Int),vi k]) (fun k=>[.arr 1 (putR n (m+1) k) 0]) (fun _=>(vs (au n),([]:Hp))) ?_ 0 (zP _) _ _ (at_head2 (by decide) (by simp only[List.map_cons,List.map_nil,go_sem,seval];exact rfl) (by simp[aL,aI,ay,aJ,ax,V.ren,L.ren,Box.ren,V.refs,L.refs,Box.refs,tw]) (by simp[aL,aI,ay,aJ,ax,V.ren,L.ren,Box.ren,V.refs,L.refs,Box.refs,tw]))
 intro k hk R hR;rcases Nat.lt_or_ge k (m+1) with h|h
 ·have hsh:b6 .shr (.i .i64 ((n:Nat):Int)) (.i .u64 (7*((k:Nat):Int)))=some (.i .i64 ((n / 2 ^ (7*k):Nat):Int)):=pM .i64 .u64 n (7*k) (by show 7*k<=64;omega)
  have e2:(2:Nat) ^ (7*k)=128 ^ k:=by rw[Nat.pow_mul]
  have hg:=jB n (m+1) k k h;have hs:=EV n (m+1) k h;rw[e2] at hsh;(simp(disch:=first|decide|omega|(intros;exact aj rfl rfl)|simp only[aa]) only[xr,↓hsh,gP,↓OL,hg,hs,go_sem,seval,ai])
  exact hR (k+1) (by omega) (by omega) _ _ (at_head2 (by decide) (by simp only[List.map_cons,List.map_nil,go_sem,seval];exact rfl) (by simp[aL,aI,ay,aJ,ax,V.ren,L.ren,Box.ren,V.refs,L.refs,Box.refs,true_and]) (by simp[aL,aI,ay,aJ,ax,V.ren,L.ren,Box.ren,V.refs,L.refs,Box.refs,true_and]))
 ·have hk':k=m+1:=by omega
  subst hk';have hg:=jB n (m+1) (m+1) m (by omega)
  have hd:vU n (m+1) m=128+n / 128 ^ m:=by unfold vU;rw[if_pos (by omega),Nat.mod_eq_of_lt hlt]
  rw[hd] at hg;generalize n / 128 ^ m=q at hlast hlt hg;have ha:=KE (128+q) (by omega)
  have hmod:(128+q) % 128=q:=by omega
  rw[hmod] at ha;have hpl:=jy n (m+1) (m+1);have hw:IntKind.i64.wrap (((m+1:Nat):Int)-1)=((m:Nat):Int):=by rw[fR (by omega)];omega
  have hel:(au n).length=m+1:=hm;have htk:(aD (au n)).take (m+1)=aD (au n):=zL (by rw[eg,hel];exact Nat.le_refl _)
  (simp(disch:=first|decide|omega|(intros;exact aj rfl rfl)|simp only[aa]) only[xr,hw,hg,↓ha,hlast,hpl,eg,hel,htk,jP,go_sem,seval,ai])
theorem gm (n:Nat) (hn:n<9223372036854775808):call 111 [vi n] []=some (vs (au n),[]):=by
 apply ah Mw rfl;(simp(disch:=first|decide|omega|(intros;exact aj rfl rfl)|simp only[aa]) only[KG,go_sem,seval,ai])
 refine gY (σ:=Nat × List UInt8) (fun s=>s.1) (fun s=>s.1<9223372036854775808∧s.2++au s.1=au n∧s.2.length+nd s.1<=9) (fun s=>[vi s.1,vs s.2]) (fun _=>[]) (fun _=>(vs (au n),([]:Hp))) ?_ (n,[]) ⟨hn,rfl,by simpa using gv hn⟩ _ _ (at_head2 (by decide) (by simp only[List.map_cons,List.map_nil,go_sem,seval];exact rfl) (by simp[aL,aI,ay,aJ,ax,V.ren,L.ren,Box.ren,V.refs,L.refs,Box.refs,true_and]) (by simp[aL,aI,ay,aJ,ax,V.ren,L.ren,Box.ren,V.refs,L.refs,Box.refs,true_and]))
 rintro⟨k,l⟩ ⟨hk,he,hl⟩ R hR;simp only at hk he hl;rcases Nat.lt_or_ge k 128 with h|h
 ·rw[gR h] at he;have hnd:=fD k;(simp(disch:=first|decide|omega|(intros;exact aj rfl rfl)|simp only[aa]) only[yP,gP,iL,fc,qL,go_sem,seval,ai])
  rw[he]
 ·have hq:((k:Nat):Int).tdiv 128=((k / 128:Nat):Int):=by rw[Int.tdiv_eq_ediv_of_nonneg (by omega)];omega
  have hr:((k:Nat):Int).tmod 128=((k % 128:Nat):Int):=by rw[Int.tmod_eq_emod_of_nonneg (by omega)];omega
  rw[nv (by omega)] at he
  rw[mD (by omega)] at hl
  have hw:IntKind.u8.wrap (128+((k % 128:Nat):Int))=((128+k % 128:Nat):Int):=by rw[pV (by omega)];omega
  have hb:UInt8.ofNat (((128+k % 128:Nat):Int)).toNat=UInt8.ofNat (128+k % 128):=rfl;(simp(disch:=first|decide|omega|(intros;exact aj rfl rfl)|simp only[aa]) only[yP,hq,hr,hw,iL,fc,go_sem,seval,ai])
  exact hR (k / 128,l++[UInt8.ofNat (128+k % 128)]) (by simp only[];omega) ⟨by simp only[];omega,by simp only[];rw[List.append_assoc];exact he,by simp only[zA,List.length_cons,List.length_nil];omega⟩ _ _ (at_head2 (by decide) (by simp only[List.map_cons,List.map_nil,go_sem,seval];exact rfl) (by simp[aL,aI,ay,aJ,ax,V.ren,L.ren,Box.ren,V.refs,L.refs,Box.refs,true_and]) (by simp[aL,aI,ay,aJ,ax,V.ren,L.ren,Box.ren,V.refs,L.refs,Box.refs,true_and]))
def iE (a:Nat):Option (Nat × Nat)->V
 | some (n,k)=>.tup [(false,[.d (.i .i64 n)]),(false,[.d (.i .i64 ((a+k:Nat):Int))]),(false,[.d (.b true)])]
 | none=>.tup [(false,[.d (.i .i64 0)]),(false,[.d (.i .i64 0)]),(false,[.d (.b false)])]
theorem HP (c i:Nat) (hc:c<128) (hi:i<=8):b6 .shl (.i .i64 ((c:Nat):Int)) (.i .u64 (7*((i:Nat):Int)))=some (.i .i64 ((c*2 ^ (7*i):Nat):Int))∧c*2 ^ (7*i)+2 ^ (7*i)<=9223372036854775808:=by
 have h2:2 ^ (7*i)<=2 ^ 56:=Nat.pow_le_pow_right (by decide) (by omega)
 have h3:(c+1)*2 ^ (7*i)<=128*2 ^ 56:=Nat.mul_le_mul (by omega) h2
 have h4:(128:Nat)*2 ^ 56=9223372036854775808:=by decide
 have h5:(c+1)*2 ^ (7*i)=c*2 ^ (7*i)+2 ^ (7*i):=by rw[Nat.add_mul,Nat.one_mul]
 refine⟨?_,by omega⟩
 have hp:0<2 ^ (7*i):=Nat.pow_pos (by decide)
 simp only[b6];rw[if_neg (by omega)]
 have e1:(7*((i:Nat):Int)).toNat=7*i:=by omega
 have e2:min (7*i) IntKind.i64.bits=7*i:=Nat.min_eq_left (by show 7*i<=64;omega)
 rw[e1,e2];have e3:((c:Nat):Int)*2 ^ (7*i)=((c*2 ^ (7*i):Nat):Int):=by simp
 rw[e3,fR (by omega)]
theorem uX (i n:Nat):i7 [] i n=none:=rfl
theorem nR (c:UInt8) (r:List UInt8) (i n:Nat):i7 (c::r) i n=if 9<=i then none else if 128<=c.toNat then i7 r (i+1) (n+c.toNat % 128*128 ^ i) else if c.toNat=0∧0<i then none else some (n+c.toNat*128 ^ i,i+1):=rfl
theorem oI (s:List UInt8) (a:Nat) (ha:a<9223372036854775808) (hs:s.length<=9223372036854775807):call 133 [vs s,vi a] []=some (iE a (i7 (s.drop a) 0 0),[]):=by
 apply ah LX rfl;(simp(disch:=first|decide|omega|(intros;exact aj rfl rfl)|simp only[aa]) only[K6,go_sem,seval,ai])
 refine gT (σ:=Nat × Nat) (fun t=>9-t.1) (fun t=>t.1<=9∧t.2<128 ^ t.1) (fun t=>[vs s,vi a,vi t.2,vi t.1]) (fun t=>(iE a (i7 (s.drop (a+t.1)) t.1 t.2),([]:Hp))) (fun _=>by simp only[go_sem,seval]) ?_ (0,0) ⟨by decide,by decide⟩ _ (by simp[go_sem,seval])
 rintro⟨i,n⟩ ⟨hi,hn⟩ R hR;simp only at hi hn;rcases Nat.lt_or_ge (a+i) s.length with h|h
 ·rcases Nat.lt_or_ge i 9 with h9|h9
  ·simp only[zD h,nR];rw[if_neg (by omega)]
   obtain⟨c,hc⟩:∃ c,c=s[a+i]:=⟨_,rfl⟩;rw[<- hc];have hg:s[a+i]?=some c:=by rw[hc];simp[h]
   have hc8:=c.toNat_lt;have hm:c.toNat % 128<128:=Nat.mod_lt _ (by decide)
   obtain⟨hsh,hbd⟩:=HP (c.toNat % 128) i hm (by omega)
   have hp:(2:Nat) ^ (7*i)=128 ^ i:=by rw[Nat.pow_mul]
   have hand:=KE c.toNat (by omega)
   have hor:=L6 n (c.toNat % 128) (7*i) (by rw[hp];exact hn) (by rw[hp] at hbd ⊢;omega)
   rw[hp] at hsh hor hbd;have hidx:(((a:Nat):Int)+((i:Nat):Int)).toNat=a+i:=by omega
   have hnat:((a+(i+1):Nat):Int)=(a:Int)+(i:Int)+1:=by omega
   have hnx:n+c.toNat % 128*128 ^ i<128 ^ (i+1):=by
    have:=Nat.mul_le_mul_right (128 ^ i) (by omega:c.toNat % 128+1<=128)
    rw[Nat.pow_succ,Nat.mul_comm (128 ^ i) 128];rw[Nat.add_mul,Nat.one_mul] at this;omega
   rcases Nat.lt_or_ge c.toNat 128 with h1|h1
   ·rw[if_neg (by omega)]
    have hmm:c.toNat % 128=c.toNat:=Nat.mod_eq_of_lt h1;rw[hmm] at hand hsh hor;by_cases h0:c.toNat=0
    ·by_cases hi0:0<i
     ·rw[if_pos ⟨h0,hi0⟩];(simp(disch:=first|decide|omega|(intros;exact aj rfl rfl)|simp only[aa]) only[kv,hidx,hg,↓hand,↓hsh,↓hor,iE,go_sem,seval,ai])
     ·rw[if_neg (by omega)]
      (simp(disch:=first|decide|omega|(intros;exact aj rfl rfl)|simp only[aa]) only[kv,hidx,hg,↓hand,↓hsh,↓hor,hnat,iE,go_sem,seval,ai])
    ·rw[if_neg (by omega)]
     (simp(disch:=first|decide|omega|(intros;exact aj rfl rfl)|simp only[aa]) only[kv,hidx,hg,↓hand,↓hsh,↓hor,hnat,iE,go_sem,seval,ai])
   ·rw[if_pos h1];(simp(disch:=first|decide|omega|(intros;exact aj rfl rfl)|simp only[aa]) only[kv,hidx,hg,↓hand,↓hsh,↓hor,go_sem,seval,ai])
    exact hR (i+1,n+c.toNat % 128*128 ^ i) (by simp only[];omega) ⟨by simp only[];omega,hnx⟩ _ (by simp[go_sem,seval])
  ·have e:i7 (s.drop (a+i)) i n=none:=by
    rw[zD h,nR,if_pos h9]
   simp only[e];(simp(disch:=first|decide|omega|(intros;exact aj rfl rfl)|simp only[aa]) only[kv,iE,go_sem,seval,ai])
 ·simp only[zC h,uX];rcases Nat.lt_or_ge i 9 with h9|h9
  ·(simp(disch:=first|decide|omega|(intros;exact aj rfl rfl)|simp only[aa]) only[kv,iE,go_sem,seval,ai])
  ·(simp(disch:=first|decide|omega|(intros;exact aj rfl rfl)|simp only[aa]) only[kv,iE,go_sem,seval,ai])
theorem dP (s:List UInt8) (a:Nat) (ha:a<9223372036854775808) (hs:s.length<=9223372036854775807):call 63 [vs s,vi a] []=some (iE a (i7 (s.drop a) 0 0),[]):=by
 apply ah OW rfl;rcases Nat.lt_or_ge a s.length with hal|hal
 ·have e00:(s.take (a+0)).drop a=[]:=zC (by simp;omega)
  rw[show i7 (s.drop a) 0 0=i7 (s.drop (a+0)) 0 (val ((s.take (a+0)).drop a)) by rw[e00];rfl]
  (simp(disch:=first|decide|omega|(intros;exact aj rfl rfl)|simp only[aa]) only[Mq,go_sem,seval,ai])
  refine gY (σ:=Nat) (fun i=>9-i) (fun i=>i<=9∧a+i<=s.length∧BJ ((s.take (a+i)).drop a)) (fun i=>[vs s,vi a,vi (val ((s.take (a+i)).drop a)),vi ((128 ^ min i 8:Nat):Int),vi i]) (fun _=>[])
   (fun i=>(iE a (i7 (s.drop (a+i)) i (val ((s.take (a+i)).drop a))),([]:Hp))) ?_ 0 ⟨by decide,by omega,?_⟩ _ _ ?_
  ·rintro i ⟨hi,hai,hp⟩ R hR;obtain⟨p,hpe⟩:∃ p,p=(s.take (a+i)).drop a:=⟨_,rfl⟩;have hpl:=Gp s a i hai;rw[<- hpe] at hp hpl;simp only[<- hpe];have hvl:=Ev p;rw[hpl] at hvl;rcases Nat.lt_or_ge (a+i) s.length with h|h
   ·have hsn:=Fk s a i h;rw[<- hpe] at hsn;rcases Nat.lt_or_ge i 9 with h9|h9
    ·simp only[zD h,nR];rw[if_neg (by omega)]
     obtain⟨c,hc⟩:∃ c,c=s[a+i]:=⟨_,rfl⟩;rw[<- hc] at hsn ⊢;have hg:s[a+i]?=some c:=by rw[hc];simp[h]
     have hc8:=c.toNat_lt;have hm:c.toNat % 128<128:=Nat.mod_lt _ (by decide)
     obtain⟨_,hbd⟩:=HP (c.toNat % 128) i hm (by omega)
     have hpw:(2:Nat) ^ (7*i)=128 ^ i:=by rw[Nat.pow_mul]
     rw[hpw] at hbd;have hmin:min i 8=i:=by omega
     have hidx:(((a:Nat):Int)+((i:Nat):Int)).toNat=a+i:=by omega
     have hr:((c.toNat:Nat):Int).tmod 128=((c.toNat % 128:Nat):Int):=by rw[Int.tmod_eq_emod_of_nonneg (by omega)];omega
     have hmul:((c.toNat % 128:Nat):Int)*((128 ^ i:Nat):Int)=((c.toNat % 128*128 ^ i:Nat):Int):=(Int.natCast_mul _ _).symm;have hw1:IntKind.i64.wrap (((c.toNat % 128*128 ^ i:Nat):Int))=((c.toNat % 128*128 ^ i:Nat):Int):=fR (by omega)
     have hw2:IntKind.i64.wrap (((val p:Nat):Int)+((c.toNat % 128*128 ^ i:Nat):Int))=((val p+c.toNat % 128*128 ^ i:Nat):Int):=by rw[fR (by omega)];omega
     have hwc:IntKind.i64.wrap ((c.toNat:Nat):Int)=((c.toNat:Nat):Int):=fR (by omega)
     have hnat:((a+(i+1):Nat):Int)=(a:Int)+(i:Int)+1:=by omega
     have hto:((a:Int)+(i:Int)+1).toNat=a+i+1:=by omega
     rcases Nat.lt_or_ge c.toNat 128 with h1|h1
     ·rw[if_neg (by omega)]
      have hmm:c.toNat % 128=c.toNat:=Nat.mod_eq_of_lt h1;rw[hmm] at hw1 hw2 hmul hr hbd;have henc:=xe p c hp h1;rw[hpl] at henc;have hput:=gm (val p+c.toNat*128 ^ i) (by omega)
      by_cases h0:c.toNat=0∧0<i
      ·rw[if_pos h0];have hne:(au (val p+c.toNat*128 ^ i) == p++[c])=false:=by
        rw[beq_eq_false_iff_ne];exact fun e=>(henc.1 e) h0
       (simp(disch:=first|decide|omega|(intros;exact aj rfl rfl)|simp only[aa]) only[pa,hidx,hg,hwc,hr,hmin,hmul,hw1,hw2,hput,hto,hsn,hne,iE,go_sem,seval,ai])
      ·rw[if_neg h0];have hne:(au (val p+c.toNat*128 ^ i) == p++[c])=true:=by
        rw[beq_iff_eq];exact henc.2 h0
       (simp(disch:=first|decide|omega|(intros;exact aj rfl rfl)|simp only[aa]) only[pa,hidx,hg,hwc,hr,hmin,hmul,hw1,hw2,hput,hto,hsn,hne,hnat,iE,go_sem,seval,ai])
     ·rw[if_pos h1];have hv:val (p++[c])=val p+c.toNat % 128*128 ^ i:=by rw[mT,hpl]
      have hb:BJ (p++[c]):=by
       intro x hx;rcases zX.1 hx with hx|hx
       ·exact hp x hx
       ·simp at hx;subst hx;exact h1
      have hR':=hR (i+1) (by omega)
      simp only[<- Nat.add_assoc,hsn,hv] at hR';rcases Nat.lt_or_ge i 8 with h8|h8
      ·have hmin2:min (i+1) 8=i+1:=by omega
       have hpb:128 ^ i*128<=128 ^ 8:=by rw[<- Nat.pow_succ];exact Nat.pow_le_pow_right (by decide) (by omega)
       have hpe8:(128:Nat) ^ 8=72057594037927936:=by decide
       have hw3:IntKind.i64.wrap (((128 ^ i:Nat):Int)*128)=((128 ^ (i+1):Nat):Int):=by
        rw[Nat.pow_succ,fR (by omega)];omega
       (simp(disch:=first|decide|omega|(intros;exact aj rfl rfl)|simp only[aa]) only[pa,hidx,hg,hwc,hr,hmin,hmul,hw1,hw2,hw3,go_sem,seval,ai])
       exact hR' ⟨by omega,by omega,hb⟩ _ _ (at_head2 (by decide) (by simp only[List.map_cons,List.map_nil,go_sem,seval];exact rfl) (by simp[aL,aI,ay,aJ,ax,V.ren,L.ren,Box.ren,V.refs,L.refs,Box.refs,hmin2]) (by simp[aL,aI,ay,aJ,ax,V.ren,L.ren,Box.ren,V.refs,L.refs,Box.refs,hmin2]))
      ·have hi8:i=8:=by omega
       have hmin2:min (i+1) 8=i:=by omega
       (simp(disch:=first|decide|omega|(intros;exact aj rfl rfl)|simp only[aa]) only[pa,hidx,hg,hwc,hr,hmin,hmul,hw1,hw2,go_sem,seval,ai])
       exact hR' ⟨by omega,by omega,hb⟩ _ _ (at_head2 (by decide) (by simp only[List.map_cons,List.map_nil,go_sem,seval];exact rfl) (by simp[aL,aI,ay,aJ,ax,V.ren,L.ren,Box.ren,V.refs,L.refs,Box.refs,hmin2]) (by simp[aL,aI,ay,aJ,ax,V.ren,L.ren,Box.ren,V.refs,L.refs,Box.refs,hmin2]))
    ·have e:i7 (s.drop (a+i)) i (val p)=none:=by
      rw[zD h,nR,if_pos h9]
     simp only[e];(simp(disch:=first|decide|omega|(intros;exact aj rfl rfl)|simp only[aa]) only[pa,iE,go_sem,seval,ai])
   ·simp only[zC h,uX];rcases Nat.lt_or_ge i 9 with h9|h9
    ·(simp(disch:=first|decide|omega|(intros;exact aj rfl rfl)|simp only[aa]) only[pa,iE,go_sem,seval,ai])
    ·(simp(disch:=first|decide|omega|(intros;exact aj rfl rfl)|simp only[aa]) only[pa,iE,go_sem,seval,ai])
  ·intro c hc;simp at hc
  ·have e0:(s.take (a+0)).drop a=[]:=zC (by simp;omega)
   have e0':(s.take a).drop a=[]:=zC (by simp;omega)
   exact(at_head2 (by decide) (by simp only[List.map_cons,List.map_nil,go_sem,seval];exact rfl) (by simp[aL,aI,ay,aJ,ax,V.ren,L.ren,Box.ren,V.refs,L.refs,Box.refs,e0',val]) (by simp[aL,aI,ay,aJ,ax,V.ren,L.ren,Box.ren,V.refs,L.refs,Box.refs,e0',val]))
 ·rw[zC hal,uX];(simp(disch:=first|decide|omega|(intros;exact aj rfl rfl)|simp only[aa]) only[Mq,iE,go_sem,seval,ai])
theorem sL (n:Int):call 134 [vi n] []=some (vb (decide (1<=n) && decide (n<=65536)),[]):=by
 apply ah LL rfl;by_cases c:1<=n
 ·(simp(disch:=first|decide|omega|(intros;exact aj rfl rfl)|simp only[aa]) only[Jj,c,go_sem,seval,ai])
 ·(simp(disch:=first|decide|omega|(intros;exact aj rfl rfl)|simp only[aa]) only[Jj,c,Bool.false_and,go_sem,seval,ai])
def vv (b:List UInt8):V:=if 1<=b.length∧b.length<=65536 then .tup [(false,[zS (bN b)]),(false,[zI 0])] else .tup [(false,[.d (.s [])]),(false,[zI 5])]
theorem sM (a b:List UInt8) (ha:a.length<=9223372036854775807) (hb:b.length<=9223372036854775807):call 106 [vl [[.s a],[.s b]]] []=some (vk .u32 (((bF 0#32 (a++b)).toNat:Nat):Int),[]):=by
 have:=w8 [a,b] (by simp) (by intro s hs;simp at hs;rcases hs with rfl|rfl <;> assumption)
 rw[F9] at this;exact this
theorem sD (b:List UInt8) (hb:b.length<=9223372036854775807):call 125 [vs b] []=some (vv b,[]):=by
 apply ah Mv rfl;have hf:=sL b.length;unfold vv;by_cases c:1<=b.length∧b.length<=65536
 ·have e1:decide (1<=(b.length:Int))=true:=by simp;omega
  have e2:decide ((b.length:Int)<=65536)=true:=by simp;omega
  rw[e1,e2] at hf;have hp:=vR b.length (by omega)
  have hel:(au b.length).length<=9:=gv (n:=b.length) (by omega)
  have hs:=sM (au b.length) b (by omega) hb
  have h4:=oQ (bF 0#32 (au b.length++b));have l4:=cH (bF 0#32 (au b.length++b));rw[if_pos c];(simp(disch:=first|decide|omega|(intros;exact aj rfl rfl)|simp only[aa]) only[IV,hf,hp,hs,h4,l4,bN,go_sem,seval,ai])
 ·have hf':(decide (1<=(b.length:Int)) && decide ((b.length:Int)<=65536))=false:=by rw[Bool.and_eq_false_iff,decide_eq_false_iff_not,decide_eq_false_iff_not];omega
  rw[hf'] at hf;rw[if_neg c];(simp(disch:=first|decide|omega|(intros;exact aj rfl rfl)|simp only[aa]) only[IV,hf,go_sem,seval,ai])
theorem fL (b:List UInt8) (hb:b.length<=9223372036854775807):call 81 [vs b] []=some (vv b,[]):=by
 apply ah Oj rfl;unfold vv;by_cases c:1<=b.length
 ·by_cases c2:b.length<=65536
  ·have hp:=gm b.length (by omega)
   have hel:(au b.length).length<=9:=gv (n:=b.length) (by omega)
   have hs:=mI (au b.length++b) (by simp;omega)
   have h4:=nD (bF 0#32 (au b.length++b));have l4:=cH (bF 0#32 (au b.length++b));rw[if_pos ⟨c,c2⟩];(simp(disch:=first|decide|omega|(intros;exact aj rfl rfl)|simp only[aa]) only[LC,hp,hs,h4,l4,bN,go_sem,seval,ai])
  ·rw[if_neg (by omega)]
   (simp(disch:=first|decide|omega|(intros;exact aj rfl rfl)|simp only[aa]) only[LC,go_sem,seval,ai])
 ·rw[if_neg (by omega)]
  (simp(disch:=first|decide|omega|(intros;exact aj rfl rfl)|simp only[aa]) only[LC,go_sem,seval,ai])
theorem AT (l:List UInt8) (hl:l.length<=9223372036854775807):call 132 [vs l] []=some (vb (jn l),[]):=by
 apply ah Mp rfl;by_cases c:l.length<=8
 ·have e:jn l=(l.drop 0).all fun c=>decide (128<=c.toNat):=by simp[jn,c]
  rw[e];(simp(disch:=first|decide|omega|(intros;exact aj rfl rfl)|simp only[aa]) only[IF,go_sem,seval,ai])
  refine gT (σ:=Nat) (fun k=>l.length-k) (fun k=>k<=l.length) (fun k=>[vs l,vi l.length,vi k]) (fun k=>(vb ((l.drop k).all fun c=>decide (128<=c.toNat)),([]:Hp))) (fun _=>by simp only[go_sem,seval]) ?_ 0 (zP _) _ (by simp[go_sem,seval])
  intro k hk R hR;rcases Nat.lt_or_ge k l.length with h|h
  ·simp only[zD h,List.all_cons];by_cases c1:128<=l[k].toNat
   ·rw[zT c1,Bool.true_and];(simp(disch:=first|decide|omega|(intros;exact aj rfl rfl)|simp only[aa]) only[ub,ly l k h,go_sem,seval,ai])
    exact hR (k+1) (by first|omega|(simp only[];omega)) (by first|omega|(simp only[];omega)) _ (by simp[go_sem,seval])
   ·rw[zF c1,Bool.false_and];(simp(disch:=first|decide|omega|(intros;exact aj rfl rfl)|simp only[aa]) only[ub,ly l k h,go_sem,seval,ai])
  ·(simp(disch:=first|decide|omega|(intros;exact aj rfl rfl)|simp only[aa]) only[ub,zC h,List.all_nil,go_sem,seval,ai])
 ·have e:jn l=false:=by simp[jn,c]
  rw[e];(simp(disch:=first|decide|omega|(intros;exact aj rfl rfl)|simp only[aa]) only[IF,go_sem,seval,ai])
theorem BK (s:List UInt8) (a:Nat) (ha:a<=s.length) (hs:s.length<=9223372036854775807):call 110 [vs s,vi a] []=some (vb (jn (s.drop a)),[]):=by
 apply ah My rfl;have e:jn (s.drop a)=(((s.drop (a+0)).all fun c=>decide (128<=c.toNat)) && decide (s.length-a<=8)):=by simp[jn,Bool.and_comm]
 rw[e];(simp(disch:=first|decide|omega|(intros;exact aj rfl rfl)|simp only[aa]) only[Lm,go_sem,seval,ai])
 refine gT (σ:=Nat) (fun k=>s.length-k) (fun k=>k<=s.length) (fun k=>[vs s,vi a,vi k]) (fun k=>(vb (((s.drop k).all fun c=>decide (128<=c.toNat)) && decide (s.length-a<=8)),([]:Hp))) (fun _=>by simp only[go_sem,seval]) ?_ a ha _ (by simp[go_sem,seval])
 intro k hk R hR;rcases Nat.lt_or_ge k s.length with h|h
 ·simp only[zD h,List.all_cons];by_cases c1:128<=s[k].toNat
  ·rw[zT c1,Bool.true_and];(simp(disch:=first|decide|omega|(intros;exact aj rfl rfl)|simp only[aa]) only[qi,ly s k h,go_sem,seval,ai])
   exact hR (k+1) (by first|omega|(simp only[];omega)) (by first|omega|(simp only[];omega)) _ (by simp[go_sem,seval])
  ·rw[zF c1,Bool.false_and,Bool.false_and];(simp(disch:=first|decide|omega|(intros;exact aj rfl rfl)|simp only[aa]) only[qi,ly s k h,go_sem,seval,ai])
 ·rw[zC h,List.all_nil,Bool.true_and];by_cases c:s.length-a<=8
  ·rw[zT c];(simp(disch:=first|decide|omega|(intros;exact aj rfl rfl)|simp only[aa]) only[qi,go_sem,seval,ai])
  ·rw[zF c];(simp(disch:=first|decide|omega|(intros;exact aj rfl rfl)|simp only[aa]) only[qi,go_sem,seval,ai])
def cu (r:List UInt8 × Nat × Int):V:=.tup [(false,[zS r.1]),(false,[zI ((r.2.1:Nat):Int)]),(false,[zI r.2.2])]
theorem Eh (n:Nat):call 134 [vi n] []=some (vb (jA n),[]):=by
 have:=sL n;have e:(decide (1<=(n:Int)) && decide ((n:Int)<=65536))=jA n:=by
  unfold jA;congr 1 <;> (rw[decide_eq_decide];omega)
 rwa [e] at this
theorem tK (s:List UInt8) (a:Nat) (ha:a<9223372036854775808) (hs:s.length<=4611686018427387904):call 101 [vs s,vi a] []=some (cu (bY s a),[]):=by
 apply ah MZ rfl;unfold bY;rcases Nat.lt_or_ge a s.length with hal|hal
 ·have ho:=AT (s.drop a) (by simp;omega)
  cases hop:jn (s.drop a) with
  | true =>
   rw[hop] at ho;rw[if_pos (.inr rfl)];(simp(disch:=first|decide|omega|(intros;exact aj rfl rfl)|simp only[aa]) only[xd,ho,cu,go_sem,seval,ai])
   try rfl
  | false =>
   rw[hop] at ho;rw[if_neg (by simp;omega)]
   have hrd:=oI s a ha (by omega)
   cases hr:i7 (s.drop a) 0 0 with
   | none =>
    rw[hr] at hrd;(simp(disch:=first|decide|omega|(intros;exact aj rfl rfl)|simp only[aa]) only[xd,ho,hrd,iE,cu,go_sem,seval,ai])
    try rfl
   | some q =>
    obtain⟨n,k⟩:=q;rw[hr] at hrd;obtain⟨te,t1,t2,t3⟩:=fZ hr;have hft:=Eh n;dsimp only
    by_cases hfn:jA n=false
    ·rw[hfn] at hft;rw[if_pos hfn];(simp(disch:=first|decide|omega|(intros;exact aj rfl rfl)|simp only[aa]) only[xd,ho,hrd,iE,hft,cu,go_sem,seval,ai])
     try rfl
    ·have hfn:jA n=true:=by simpa using hfn
     rw[hfn] at hft;have hn:1<=n∧n<=65536:=by simpa[jA] using hfn
     have e1:((a+k:Nat):Int)+4=((a+k+4:Nat):Int):=rfl;have e3:((a+k+4:Nat):Int)+((n:Nat):Int)=((a+k+4+n:Nat):Int):=rfl;have e4:IntKind.i64.wrap (((a+k+4:Nat):Int)-4)=((a+k:Nat):Int):=by rw[fR (by omega)];omega
     rw[if_neg (by rw[hfn];decide)]
     by_cases hsh:s.length<a+k+4+n
     ·rw[if_pos hsh];(simp(disch:=first|decide|omega|(intros;exact aj rfl rfl)|simp only[aa]) only[xd,ho,hrd,iE,hft,cu,e1,go_sem,seval,ai])
      try rfl
     ·rw[if_neg hsh];have hcs:=sM (au n) ((s.take (a+k+4+n)).drop (a+k+4)) (by have:(au n).length<=9:=gv (n:=n) (by omega);omega) (by simp;omega)
      have h4:=oQ (bF 0#32 (au n++(s.take (a+k+4+n)).drop (a+k+4)));by_cases hq:co (bF 0#32 (au n++(s.take (a+k+4+n)).drop (a+k+4)))=(s.take (a+k+4)).drop (a+k)
      ·have hb:(co (bF 0#32 (au n++(s.take (a+k+4+n)).drop (a+k+4))) == (s.take (a+k+4)).drop (a+k))=true:=by rw[beq_iff_eq];exact hq
       rw[if_pos hq];(simp(disch:=first|decide|omega|(intros;exact aj rfl rfl)|simp only[aa]) only[xd,ho,hrd,iE,hft,cu,e1,e3,e4,te,hcs,h4,hb,go_sem,seval,ai])
      ·have hb:(co (bF 0#32 (au n++(s.take (a+k+4+n)).drop (a+k+4))) == (s.take (a+k+4)).drop (a+k))=false:=by rw[beq_eq_false_iff_ne];exact hq
       rw[if_neg hq];(simp(disch:=first|decide|omega|(intros;exact aj rfl rfl)|simp only[aa]) only[xd,ho,hrd,iE,hft,cu,e1,e3,e4,te,hcs,h4,hb,go_sem,seval,ai])
       try rfl
 ·rw[if_pos (.inl hal)];(simp(disch:=first|decide|omega|(intros;exact aj rfl rfl)|simp only[aa]) only[xd,cu,go_sem,seval,ai])
  try rfl
theorem nT (s:List UInt8) (a:Nat) (ha:a<9223372036854775808) (hs:s.length<=4611686018427387904):call 62 [vs s,vi a] []=some (cu (bY s a),[]):=by
 apply ah N0 rfl;unfold bY;rcases Nat.lt_or_ge a s.length with hal|hal
 ·have ho:=BK s a (by omega) (by omega)
  cases hop:jn (s.drop a) with
  | true =>
   rw[hop] at ho;rw[if_pos (.inr rfl)];(simp(disch:=first|decide|omega|(intros;exact aj rfl rfl)|simp only[aa]) only[FK,ho,cu,go_sem,seval,ai])
   try rfl
  | false =>
   rw[hop] at ho;rw[if_neg (by simp;omega)]
   have hrd:=dP s a ha (by omega)
   cases hr:i7 (s.drop a) 0 0 with
   | none =>
    rw[hr] at hrd;(simp(disch:=first|decide|omega|(intros;exact aj rfl rfl)|simp only[aa]) only[FK,ho,hrd,iE,cu,go_sem,seval,ai])
    try rfl
   | some q =>
    obtain⟨n,k⟩:=q;rw[hr] at hrd;obtain⟨te,t1,t2,t3⟩:=fZ hr;dsimp only
    by_cases hfn:jA n=false
    ·rw[if_pos hfn];have hn':n<1∨65536<n:=by
      simp only[jA,Bool.and_eq_false_iff,decide_eq_false_iff_not] at hfn;omega
     by_cases h0:n<1
     ·(simp(disch:=first|decide|omega|(intros;exact aj rfl rfl)|simp only[aa]) only[FK,ho,hrd,iE,cu,go_sem,seval,ai])
      try rfl
     ·(simp(disch:=first|decide|omega|(intros;exact aj rfl rfl)|simp only[aa]) only[FK,ho,hrd,iE,cu,go_sem,seval,ai])
      try rfl
    ·have hfn:jA n=true:=by simpa using hfn
     have hn:1<=n∧n<=65536:=by simpa[jA] using hfn
     have e1:((a+k:Nat):Int)+4=((a+k+4:Nat):Int):=rfl;have e3:((a+k+4:Nat):Int)+((n:Nat):Int)=((a+k+4+n:Nat):Int):=rfl;have e4:IntKind.i64.wrap (((a+k+4:Nat):Int)-4)=((a+k:Nat):Int):=by rw[fR (by omega)];omega
     rw[if_neg (by rw[hfn];decide)]
     by_cases hsh:s.length<a+k+4+n
     ·rw[if_pos hsh];(simp(disch:=first|decide|omega|(intros;exact aj rfl rfl)|simp only[aa]) only[FK,ho,hrd,iE,cu,e1,go_sem,seval,ai])
      try rfl
     ·rw[if_neg hsh];have htl:((s.take (a+k+4+n)).drop (a+k+4)).length=n:=by simp;omega
      have hpf:=fL ((s.take (a+k+4+n)).drop (a+k+4)) (by omega)
      unfold vv at hpf;rw[htl,if_pos hn] at hpf;have hsp:(s.take (a+k+4+n)).drop a=au n++(s.take (a+k+4)).drop (a+k)++(s.take (a+k+4+n)).drop (a+k+4):=by
       rw[<- te];have s1:∀ (l:List UInt8) (i j m:Nat),i<=j->j<=m->(l.take m).drop i=(l.take j).drop i++(l.take m).drop j:=by
        intro l i j m hij hjm;have e:l.take m=l.take j++(l.take m).drop j:=by
         conv=>lhs;rw[<- zY j (l.take m),List.take_take,Nat.min_eq_left hjm]
        rcases Nat.lt_or_ge l.length j with hlj|hlj
        ·have:(l.take m).drop j=[]:=zC (by simp;omega)
         rw[this,List.append_nil,zL (by omega),zL (by omega)]
        ·conv=>lhs;rw[e]
         rw[List.drop_append_of_le_length (by simp;omega)]
       rw[s1 s a (a+k) (a+k+4+n) (by omega) (by omega),s1 s (a+k) (a+k+4) (a+k+4+n) (by omega) (by omega),List.append_assoc]
      have hto:((a+k+4+n:Nat):Int).toNat=a+k+4+n:=rfl;have e5:4+((n:Nat):Int)=((4+n:Nat):Int):=rfl;have hff:bN ((s.take (a+k+4+n)).drop (a+k+4))=au n++co (bF 0#32 (au n++(s.take (a+k+4+n)).drop (a+k+4)))++(s.take (a+k+4+n)).drop (a+k+4):=by
       unfold bN;rw[htl]
      by_cases hq:co (bF 0#32 (au n++(s.take (a+k+4+n)).drop (a+k+4)))=(s.take (a+k+4)).drop (a+k)
      ·have hb:(bN ((s.take (a+k+4+n)).drop (a+k+4)) == (s.take (a+k+4+n)).drop a)=true:=by rw[beq_iff_eq,hff,hsp,hq]
       rw[if_pos hq];(simp(disch:=first|decide|omega|(intros;exact aj rfl rfl)|simp only[aa]) only[FK,ho,hrd,iE,cu,e1,e3,e5,hpf,hb,go_sem,seval,ai])
      ·have hb:(bN ((s.take (a+k+4+n)).drop (a+k+4)) == (s.take (a+k+4+n)).drop a)=false:=by
        rw[beq_eq_false_iff_ne,hff,hsp];intro he;exact hq (List.append_cancel_left (List.append_cancel_right he))
       rw[if_neg hq];(simp(disch:=first|decide|omega|(intros;exact aj rfl rfl)|simp only[aa]) only[FK,ho,hrd,iE,cu,e1,e3,e5,hpf,hb,go_sem,seval,ai])
       try rfl
 ·rw[if_pos (.inl hal)];(simp(disch:=first|decide|omega|(intros;exact aj rfl rfl)|simp only[aa]) only[FK,cu,go_sem,seval,ai])
  try rfl
structure Rec where
 at_:Int
 ti:Int
 da:List UInt8
 deriving DecidableEq
def Rec.enc (e:Rec):List D:=[.i .i64 e.at_,.i .i64 e.ti,.s e.da]
theorem Rec.len (e:Rec):e.enc.length=3:=Eq.trans rfl rfl
theorem Rec.tk (e:Rec):e.enc.take 3=e.enc:=Eq.trans rfl rfl
theorem Rec.tkL (e:Rec):(e.enc.map L.d).take 3=e.enc.map L.d:=Eq.trans rfl rfl
theorem Rec.dat (e:Rec):gr (e.enc.map L.d)=some (e.enc.map L.d):=Eq.trans rfl rfl
theorem Rec.rfs (e:Rec):(e.enc.map L.d).flatMap L.refs=[]:=Eq.trans rfl rfl
theorem Rec.rn (e:Rec) (g:Nat->Option Nat):(e.enc.map L.d).map (L.ren g)=e.enc.map L.d:=Eq.trans rfl rfl
theorem Rec.lenL (e:Rec):(e.enc.map L.d).length=3:=Eq.trans rfl rfl
theorem Rec.at0 (e:Rec):e.enc[0]?=some (.i .i64 e.at_):=Eq.trans rfl rfl
theorem Rec.fd0 (e:Rec):(e.enc.map L.d)[0]?=some (zI e.at_):=Eq.trans rfl rfl
theorem Rec.at1 (e:Rec):(e.enc.drop 1)[0]?=some (.i .i64 e.ti):=Eq.trans rfl rfl
theorem Rec.fd1 (e:Rec):(e.enc.map L.d)[1]?=some (zI e.ti):=Eq.trans rfl rfl
theorem Rec.at2 (e:Rec):(e.enc.drop 2)[0]?=some (.s e.da):=Eq.trans rfl rfl
theorem Rec.fd2 (e:Rec):(e.enc.map L.d)[2]?=some (zS e.da):=Eq.trans rfl rfl
def Rec.ok (e:Rec):Prop:=(-9223372036854775808<=e.at_∧e.at_<9223372036854775808)∧(-9223372036854775808<=e.ti∧e.ti<9223372036854775808)∧e.da.length<=9223372036854775807
def Rec.ty:List Ty:=[.i .i64,.i .i64,.s]
def eb (n:Int):Bool:=decide (0<=n) && decide (n<=1099511627776)
def whyF (r:Rec):Int:=if eb r.at_=true∧eb r.ti=true then(if r.da.length<=64 then 0 else 5) else 6
theorem ES {n:Int} (h:eb n=true):0<=n∧n<=1099511627776:=by simpa[eb] using h
theorem vj (n:Int) (hn : -9223372036854775808<=n∧n<9223372036854775808):call 153 [vi n] []=some (vb (!eb n),[]):=by
 apply ah LO rfl;by_cases c:0<=n
 ·by_cases c2:n<=1099511627776
  ·have e:IntKind.u64.wrap n=n:=ny (by omega)
   have eo:eb n=true:=by simp[eb,c,c2]
   (simp(disch:=first|decide|omega|(intros;exact aj rfl rfl)|simp only[aa]) only[HE,e,eo,go_sem,seval,ai])
  ·have e:IntKind.u64.wrap n=n:=ny (by omega)
   have eo:eb n=false:=by simp[eb,c,c2]
   (simp(disch:=first|decide|omega|(intros;exact aj rfl rfl)|simp only[aa]) only[HE,e,eo,go_sem,seval,ai])
 ·have e:IntKind.u64.wrap n=n+18446744073709551616:=by
   show n % 18446744073709551616=_;omega
  have eo:eb n=false:=by simp[eb,c]
  (simp(disch:=first|decide|omega|(intros;exact aj rfl rfl)|simp only[aa]) only[HE,e,eo,go_sem,seval,ai])
theorem i6 (n:Int):call 76 [vi n] []=some (vb (eb n),[]):=by
 apply ah Pf rfl;by_cases c:0<=n
 ·(simp(disch:=first|decide|omega|(intros;exact aj rfl rfl)|simp only[aa]) only[Ma,eb,c,go_sem,seval,ai])
 ·(simp(disch:=first|decide|omega|(intros;exact aj rfl rfl)|simp only[aa]) only[Ma,eb,c,Bool.false_and,go_sem,seval,ai])
theorem yF (r:Rec) (hr:r.ok):call 151 [.agg (r.enc.map .d)] []=some (vi (whyF r),[]):=by
 apply ah MV rfl;obtain⟨h1,h2,h3⟩:=hr;have f1:=vj r.at_ h1;have f2:=vj r.ti h2;unfold whyF;cases c1:eb r.at_ with
 | false =>
  rw[c1] at f1;(simp(disch:=first|decide|omega|(intros;exact aj rfl rfl)|simp only[aa]) only[C2,Rec.len,Rec.tk,Rec.fd0,Rec.fd1,Rec.fd2,Rec.at0,Rec.at1,Rec.at2,f1,f2,go_sem,seval,ai])
  try simp
 | true =>
  cases c2:eb r.ti with
  | false =>
   rw[c1] at f1;rw[c2] at f2;(simp(disch:=first|decide|omega|(intros;exact aj rfl rfl)|simp only[aa]) only[C2,Rec.len,Rec.tk,Rec.fd0,Rec.fd1,Rec.fd2,Rec.at0,Rec.at1,Rec.at2,f1,f2,go_sem,seval,ai])
   try simp
  | true =>
   rw[c1] at f1;rw[c2] at f2;by_cases c3:r.da.length<=64
   ·(simp(disch:=first|decide|omega|(intros;exact aj rfl rfl)|simp only[aa]) only[C2,Rec.len,Rec.tk,Rec.fd0,Rec.fd1,Rec.fd2,Rec.at0,Rec.at1,Rec.at2,f1,f2,go_sem,seval,ai])
    try simp[c3]
   ·(simp(disch:=first|decide|omega|(intros;exact aj rfl rfl)|simp only[aa]) only[C2,Rec.len,Rec.tk,Rec.fd0,Rec.fd1,Rec.fd2,Rec.at0,Rec.at1,Rec.at2,f1,f2,go_sem,seval,ai])
    try simp[c3]
theorem w5 (r:Rec) (hr:r.ok):call 80 [.agg (r.enc.map .d)] []=some (vi (whyF r),[]):=by
 apply ah Pc rfl;obtain⟨h1,h2,h3⟩:=hr;have f1:=i6 r.at_;have f2:=i6 r.ti;unfold whyF;cases c1:eb r.at_ with
 | false =>
  rw[c1] at f1;(simp(disch:=first|decide|omega|(intros;exact aj rfl rfl)|simp only[aa]) only[Ks,Rec.len,Rec.tk,Rec.fd0,Rec.fd1,Rec.fd2,Rec.at0,Rec.at1,Rec.at2,f1,f2,go_sem,seval,ai])
  try simp
 | true =>
  cases c2:eb r.ti with
  | false =>
   rw[c1] at f1;rw[c2] at f2;(simp(disch:=first|decide|omega|(intros;exact aj rfl rfl)|simp only[aa]) only[Ks,Rec.len,Rec.tk,Rec.fd0,Rec.fd1,Rec.fd2,Rec.at0,Rec.at1,Rec.at2,f1,f2,go_sem,seval,ai])
   try simp
  | true =>
   rw[c1] at f1;rw[c2] at f2;by_cases c3:r.da.length<=64
   ·(simp(disch:=first|decide|omega|(intros;exact aj rfl rfl)|simp only[aa]) only[Ks,Rec.len,Rec.tk,Rec.fd0,Rec.fd1,Rec.fd2,Rec.at0,Rec.at1,Rec.at2,f1,f2,go_sem,seval,ai])
    try simp[c3]
   ·(simp(disch:=first|decide|omega|(intros;exact aj rfl rfl)|simp only[aa]) only[Ks,Rec.len,Rec.tk,Rec.fd0,Rec.fd1,Rec.fd2,Rec.at0,Rec.at1,Rec.at2,f1,f2,go_sem,seval,ai])
    try simp[c3]
theorem lW (r:Rec):call 43 [.agg (r.enc.map .d)] []=some (vb (decide (whyF r=0)),[]):=by
 apply ah Ow rfl;have f1:=i6 r.at_;have f2:=i6 r.ti;unfold whyF;cases c1:eb r.at_ with
 | false =>
  rw[c1] at f1;(simp(disch:=first|decide|omega|(intros;exact aj rfl rfl)|simp only[aa]) only[K9,Rec.len,Rec.tkL,Rec.dat,Rec.lenL,Rec.fd0,Rec.fd1,Rec.fd2,Rec.at0,Rec.at1,Rec.at2,f1,f2,go_sem,seval,ai])
  try simp
 | true =>
  cases c2:eb r.ti with
  | false =>
   rw[c1] at f1;rw[c2] at f2;(simp(disch:=first|decide|omega|(intros;exact aj rfl rfl)|simp only[aa]) only[K9,Rec.len,Rec.tkL,Rec.dat,Rec.lenL,Rec.fd0,Rec.fd1,Rec.fd2,Rec.at0,Rec.at1,Rec.at2,f1,f2,go_sem,seval,ai])
   try simp
  | true =>
   rw[c1] at f1;rw[c2] at f2;by_cases c3:r.da.length<=64
   ·(simp(disch:=first|decide|omega|(intros;exact aj rfl rfl)|simp only[aa]) only[K9,Rec.len,Rec.tkL,Rec.dat,Rec.lenL,Rec.fd0,Rec.fd1,Rec.fd2,Rec.at0,Rec.at1,Rec.at2,f1,f2,go_sem,seval,ai])
    try simp[c3]
   ·(simp(disch:=first|decide|omega|(intros;exact aj rfl rfl)|simp only[aa]) only[K9,Rec.len,Rec.tkL,Rec.dat,Rec.lenL,Rec.fd0,Rec.fd1,Rec.fd2,Rec.at0,Rec.at1,Rec.at2,f1,f2,go_sem,seval,ai])
    try simp[c3]
def ke (r:Rec):List UInt8:=au r.at_.toNat++au r.ti.toNat++r.da
structure Fit (r:Rec):Prop where
 a0:0<=r.at_
 a1:r.at_<=1099511627776
 t0:0<=r.ti
 t1:r.ti<=1099511627776
 d:r.da.length<=64
theorem At {r:Rec}:whyF r=0↔Fit r:=by
 unfold whyF;constructor
 ·intro h;split at h
  ·rename_i c;have c1:=ES c.1;have c2:=ES c.2;split at h
   ·exact⟨c1.1,c1.2,c2.1,c2.2,by assumption⟩
   ·cases h
  ·cases h
 ·intro h;have c1:eb r.at_=true:=by simp[eb,h.a0,h.a1]
  have c2:eb r.ti=true:=by simp[eb,h.t0,h.t1]
  rw[if_pos ⟨c1,c2⟩,if_pos h.d]
theorem Dh {n:Nat} (h:n<=1099511627776):nd n<=6:=by
 have hp:=fD n;rcases Nat.lt_or_ge 6 (nd n) with h6|h6
 ·have:=(ee (nd n-1) n).1 (by omega)
  rcases this.2 with h0|h0
  ·omega
  ·have:(128:Nat) ^ 6<=128 ^ (nd n-1):=Nat.pow_le_pow_right (by decide) (by omega)
   have e:(128:Nat) ^ 6=4398046511104:=by decide
   omega
 ·exact h6
theorem DX (r:Rec):(ke r).length=nd r.at_.toNat+nd r.ti.toNat+r.da.length:=by simp[ke,nd,Nat.add_assoc]
theorem Fit.blen {r:Rec} (h:Fit r):2<=(ke r).length∧(ke r).length<=76:=by
 have h1:=Dh (n:=r.at_.toNat) (by have:=h.a0;have:=h.a1;omega)
 have h2:=Dh (n:=r.ti.toNat) (by have:=h.t0;have:=h.t1;omega)
 have h3:=fD r.at_.toNat;have h4:=fD r.ti.toNat;have:=h.d;rw[DX];omega
def putR (r:Rec):V:=if whyF r=0 then .tup [(false,[zS (bN (ke r))]),(false,[zI 0])] else .tup [(false,[.d (.s [])]),(false,[zI (whyF r)])]
theorem HG {n:Int} (h:0<=n) (h1:n<9223372036854775808):call 124 [vi n] []=some (vs (au n.toNat),[]):=by
 have:=vR n.toNat (by omega)
 rwa [show((n.toNat:Nat):Int)=n by omega] at this
theorem lB {n:Int} (h:0<=n) (h1:n<9223372036854775808):call 111 [vi n] []=some (vs (au n.toNat),[]):=by
 have:=gm n.toNat (by omega)
 rwa [show((n.toNat:Nat):Int)=n by omega] at this
theorem uc (r:Rec) (hr:r.ok) (hf:Fit r):call 82 [.agg (r.enc.map .d)] []=some (vs (ke r),[]):=by
 apply ah O8 rfl;have p1:=lB hf.a0 hr.1.2;have p2:=lB hf.t0 hr.2.1.2;have l1:(au r.at_.toNat).length<=9:=gv (n:=r.at_.toNat) (by have:=hr.1.2;omega)
 have l2:(au r.ti.toNat).length<=9:=gv (n:=r.ti.toNat) (by have:=hr.2.1.2;omega)
 have l3:=hf.d;(simp(disch:=first|decide|omega|(intros;exact aj rfl rfl)|simp only[aa]) only[Ny,Rec.len,Rec.tkL,Rec.dat,Rec.lenL,Rec.fd0,Rec.fd1,Rec.fd2,Rec.at0,Rec.at1,Rec.at2,p1,p2,ke,go_sem,seval,ai])
theorem sd (r:Rec) (hr:r.ok):call 45 [.agg (r.enc.map .d)] []=some (putR r,[]):=by
 apply ah Og rfl;have h:=w5 r hr;unfold putR;by_cases c:whyF r=0
 ·have hf:=At.1 c;have hb:=hf.blen;have p:=fL (ke r) (by omega)
  unfold vv at p;rw[if_pos (by omega)] at p
  rw[c] at h;have p1:=uc r hr hf;rw[if_pos c];(simp(disch:=first|decide|omega|(intros;exact aj rfl rfl)|simp only[aa]) only[M5,Rec.len,Rec.tkL,Rec.dat,Rec.lenL,Rec.fd0,Rec.fd1,Rec.fd2,Rec.at0,Rec.at1,Rec.at2,h,p1,p,go_sem,seval,ai])
 ·rw[if_neg c];(simp(disch:=first|decide|omega|(intros;exact aj rfl rfl)|simp only[aa]) only[M5,Rec.len,Rec.tkL,Rec.dat,Rec.lenL,Rec.fd0,Rec.fd1,Rec.fd2,Rec.at0,Rec.at1,Rec.at2,h,go_sem,seval,ai])
theorem sZ (s:List UInt8) (a:Nat) (g:Bool) (ha:a<9223372036854775808) (hs:s.length<=9223372036854775807) :
  call 150 [.one (.p 0 0),.one (.p 1 0),.one (.p 2 0)] [.cells [zS s],.cells [zI a],.cells [zB g]] =
   some (match i7 (s.drop a) 0 0 with|some (n,k)=>(vi n,[.cells [zS s],.cells [zI ((a+k:Nat):Int)],.cells [zB g]])|none=>(vi 0,[.cells [zS s],.cells [zI 0],.cells [zB false]])):=by
 apply ah M6 rfl;have hr:=oI s a ha hs;cases h:i7 (s.drop a) 0 0 with
 | none =>
  rw[h] at hr;cases g
  ·(simp(disch:=first|decide|omega|(intros;exact aj rfl rfl)|simp only[aa]) only[CZ,hr,iE,go_sem,seval,ai])
   try rfl
  ·(simp(disch:=first|decide|omega|(intros;exact aj rfl rfl)|simp only[aa]) only[CZ,hr,iE,go_sem,seval,ai])
   try rfl
 | some q =>
  obtain⟨n,k⟩:=q;rw[h] at hr;cases g
  ·(simp(disch:=first|decide|omega|(intros;exact aj rfl rfl)|simp only[aa]) only[CZ,hr,iE,go_sem,seval,ai])
   try rfl
  ·(simp(disch:=first|decide|omega|(intros;exact aj rfl rfl)|simp only[aa]) only[CZ,hr,iE,go_sem,seval,ai])
   try rfl
def gc (s:List UInt8):Rec × Int:=match i7 s 0 0 with
 | none=>(⟨0,0,[]⟩,3)
 | some (n,k)=>match i7 (s.drop k) 0 0 with
  | none=>(⟨0,0,[]⟩,3)
  | some (m,j)=>if whyF ⟨n,m,s.drop (k+j)⟩=0 then(⟨n,m,s.drop (k+j)⟩,0) else(⟨0,0,[]⟩,whyF ⟨n,m,s.drop (k+j)⟩)
def Cb (r:Rec × Int):V:=.tup [(true,r.1.enc.map .d),(false,[zI r.2])]
theorem jW {φ:bL} {f:FuncId} {args args':List V} {H H' H1 H2:Hp} {ids:List Nat} {r r':V} (hi:aL H (args.flatMap V.refs)=ids) (ha:args.map (V.ren (aK ids))=args') (hH:ax H ids=H')
  (hr:φ f args' H'=some (r,H1)) (he:(r.ren (fun j=>if j<ids.length then ids[j]? else some (H.length+(j-ids.length))),bB H ids ((H1.take ids.length).map (Box.ren (fun j=>if j<ids.length then ids[j]? else some (H.length+(j-ids.length)))))++(H1.drop ids.length).map (Box.ren (fun j=>if j<ids.length then ids[j]? else some (H.length+(j-ids.length)))))=(r',H2)) :
  az φ f args H=some (r',H2):=by
 subst hi;subst ha;subst hH;simp only[az,hr];rw[he]
theorem tG {l:List UInt8} {n k:Nat} (h:i7 l 0 0=some (n,k)):n<9223372036854775808:=by
 obtain⟨h1,h2,h3,h4⟩:=dA h;have e:nd n=k:=by unfold nd;rw[<- h4,zQ];omega
 obtain⟨m,hm⟩:∃ m,nd n=m+1:=⟨nd n-1,by have:=fD n;omega⟩
 have:=((ee m n).1 hm).1;have h9:(128:Nat) ^ (m+1)<=128 ^ 9:=Nat.pow_le_pow_right (by decide) (by omega)
 have e9:(128:Nat) ^ 9=9223372036854775808:=by decide
 omega
theorem CP (s:List UInt8) (hs:s.length<=1000000):call 145 [vs s] []=some (Cb (gc s),[]):=by
 apply ah M4 rfl;have g1:=sZ s 0 true (by decide) (by omega)
 unfold gc Cb;cases h:i7 s 0 0 with
 | none =>
  rw[List.drop_zero,h] at g1;have c1:az call 150 [.one (.p 0 0),.one (.p 2 0),.one (.p 3 0)] [.cells [zS s],.cells [zI 0,zI 0,.d (.s [])],.cells [zI 0],.cells [zB true]]=some (vi 0,[.cells [zS s],.cells [zI 0,zI 0,.d (.s [])],.cells [zI 0],.cells [zB false]]) :=
   jW rfl rfl rfl g1 rfl
  (simp(disch:=first|decide|omega|(intros;exact aj rfl rfl)|simp only[aa]) only[E9,c1,List.mapM_cons,List.mapM_nil,Option.pure_def,Option.bind_eq_bind,Option.bind_some,List.map_cons,List.map_nil,List.cons_append,List.nil_append,go_sem,seval,ai])
  try rfl
 | some q =>
  obtain⟨n,k⟩:=q;rw[List.drop_zero,h] at g1;obtain⟨b1,b2,b3,b4⟩:=dA h;have hn:=tG h;simp only[Nat.zero_add] at g1;have c1:az call 150 [.one (.p 0 0),.one (.p 2 0),.one (.p 3 0)] [.cells [zS s],.cells [zI 0,zI 0,.d (.s [])],.cells [zI 0],.cells [zB true]]=some (vi n,[.cells [zS s],.cells [zI 0,zI 0,.d (.s [])],.cells [zI k],.cells [zB true]]) :=
   jW rfl rfl rfl g1 rfl
  have g2:=sZ s k true (by omega) (by omega)
  dsimp only
  cases h2:i7 (s.drop k) 0 0 with
  | none =>
   rw[h2] at g2;have c2:az call 150 [.one (.p 0 0),.one (.p 2 0),.one (.p 3 0)] [.cells [zS s],.cells [zI 0,zI 0,.d (.s [])],.cells [zI k],.cells [zB true],.cells [zI n,zI 0,.d (.s [])]]=some (vi 0,[.cells [zS s],.cells [zI 0,zI 0,.d (.s [])],.cells [zI 0],.cells [zB false],.cells [zI n,zI 0,.d (.s [])]]) :=
    jW rfl rfl rfl g2 rfl
   (simp(disch:=first|decide|omega|(intros;exact aj rfl rfl)|simp only[aa]) only[E9,c1,c2,List.mapM_cons,List.mapM_nil,Option.pure_def,Option.bind_eq_bind,Option.bind_some,List.map_cons,List.map_nil,List.cons_append,List.nil_append,go_sem,seval,ai])
   try rfl
  | some q2 =>
   obtain⟨m,j⟩:=q2;rw[h2] at g2;obtain⟨d1,d2,d3,d4⟩:=dA h2;have hm:=tG h2;have d2':k+j<=s.length:=by rw[zH] at d2;omega
   have c2:az call 150 [.one (.p 0 0),.one (.p 2 0),.one (.p 3 0)] [.cells [zS s],.cells [zI 0,zI 0,.d (.s [])],.cells [zI k],.cells [zB true],.cells [zI n,zI 0,.d (.s [])]]=some (vi m,[.cells [zS s],.cells [zI 0,zI 0,.d (.s [])],.cells [zI ((k+j:Nat):Int)],.cells [zB true],.cells [zI n,zI 0,.d (.s [])]]) :=
    jW rfl rfl rfl g2 rfl
   have ck:call 151 [.agg [zI n,zI m,zS (s.drop (k+j))]] []=some (vi (whyF ⟨n,m,s.drop (k+j)⟩),[]):=yF ⟨n,m,s.drop (k+j)⟩ ⟨⟨by simp only[];omega,by simp only[];omega⟩,⟨by simp only[];omega,by simp only[];omega⟩,by simp;omega⟩
   dsimp only
   by_cases c:whyF ⟨n,m,s.drop (k+j)⟩=0
   ·rw[c] at ck;rw[if_pos c];(simp(disch:=first|decide|omega|(intros;exact aj rfl rfl)|simp only[aa]) only[E9,c1,c2,ck,List.mapM_cons,List.mapM_nil,Option.pure_def,Option.bind_eq_bind,Option.bind_some,List.map_cons,List.map_nil,List.cons_append,List.nil_append,go_sem,seval,ai])
    try rfl
   ·rw[if_neg c];(simp(disch:=first|decide|omega|(intros;exact aj rfl rfl)|simp only[aa]) only[E9,c1,c2,ck,c,List.mapM_cons,List.mapM_nil,Option.pure_def,Option.bind_eq_bind,Option.bind_some,List.map_cons,List.map_nil,List.cons_append,List.nil_append,go_sem,seval,ai])
    try rfl
theorem wU (s:List UInt8) (hs:s.length<=1000000):call 138 [vs s] []=some (Cb (gc s),[]):=by
 apply ah MC rfl;have g1:=dP s 0 (by decide) (by omega)
 simp only[List.drop_zero,Int.natCast_zero] at g1;unfold gc Cb;cases h:i7 s 0 0 with
 | none =>
  rw[h] at g1;(simp(disch:=first|decide|omega|(intros;exact aj rfl rfl)|simp only[aa]) only[Dz,g1,iE,go_sem,seval,ai])
  try rfl
 | some q =>
  obtain⟨n,k⟩:=q;rw[h] at g1;simp only[iE,Nat.zero_add] at g1;obtain⟨b1,b2,b3,b4⟩:=dA h;have hn:=tG h;have g2:=dP s k (by omega) (by omega)
  dsimp only
  cases h2:i7 (s.drop k) 0 0 with
  | none =>
   rw[h2] at g2;simp only[iE] at g2;(simp(disch:=first|decide|omega|(intros;exact aj rfl rfl)|simp only[aa]) only[Dz,g1,g2,go_sem,seval,ai])
   try rfl
  | some q2 =>
   obtain⟨m,j⟩:=q2;rw[h2] at g2;simp only[iE] at g2;obtain⟨d1,d2,d3,d4⟩:=dA h2;have hm:=tG h2;have d2':k+j<=s.length:=by rw[zH] at d2;omega
   have ck:call 80 [.agg [zI n,zI m,zS (s.drop (k+j))]] []=some (vi (whyF ⟨n,m,s.drop (k+j)⟩),[]):=w5 ⟨n,m,s.drop (k+j)⟩ ⟨⟨by simp only[];omega,by simp only[];omega⟩,⟨by simp only[];omega,by simp only[];omega⟩,by simp;omega⟩
   dsimp only
   by_cases c:whyF ⟨n,m,s.drop (k+j)⟩=0
   ·rw[c] at ck;rw[if_pos c];(simp(disch:=first|decide|omega|(intros;exact aj rfl rfl)|simp only[aa]) only[Dz,g1,g2,ck,go_sem,seval,ai])
    try rfl
   ·rw[if_neg c];(simp(disch:=first|decide|omega|(intros;exact aj rfl rfl)|simp only[aa]) only[Dz,g1,g2,ck,c,go_sem,seval,ai])
    try rfl
def Jc (r:Rec):List UInt8:=bN (ke r)
def rowS (l:List Rec):List UInt8:=l.flatMap Jc
theorem jR (s:List UInt8) (a:Nat):(bY s a).1.length<=s.length:=by
 unfold bY;repeat' split
 all_goals (try simp)
 all_goals omega
def bm:Nat->List UInt8->Nat->Int->List (Rec × Nat) × Nat × Int
 | 0,_,a,_=>([],a,0)
 | f+1,s,a,b=>if s.length<=a then([],a,0) else
  match bY s a with
  | (t,n,e)=>if e=0 then(if(gc t).2=0 then(if(gc t).1.at_=b then(((gc t).1,a)::(bm f s n (b+1)).1,(bm f s n (b+1)).2) else([],a,3)) else([],a,(gc t).2)) else([],a,e)
theorem dN {s t:List UInt8} {a n f:Nat} {b:Int} (ha:a<s.length) (h:bY s a=(t,n,0)) (hg:(gc t).2=0) (hb:(gc t).1.at_=b):bm (f+1) s a b=(((gc t).1,a)::(bm f s n (b+1)).1,(bm f s n (b+1)).2):=by
 simp only[bm];rw[if_neg (by omega),h];simp only[];rw[if_pos trivial,if_pos hg,if_pos hb]
theorem eF {s t:List UInt8} {a n f:Nat} {b:Int} (ha:a<s.length) (h:bY s a=(t,n,0)) (hg:(gc t).2=0) (hb:(gc t).1.at_≠b):bm (f+1) s a b=([],a,3):=by
 simp only[bm];rw[if_neg (by omega),h];simp only[];rw[if_pos trivial,if_pos hg,if_neg hb]
theorem eS {s t:List UInt8} {a n f:Nat} {b:Int} (ha:a<s.length) (h:bY s a=(t,n,0)) (hg:(gc t).2≠0):bm (f+1) s a b=([],a,(gc t).2):=by
 simp only[bm];rw[if_neg (by omega),h];simp only[];rw[if_pos trivial,if_neg hg]
theorem dU {s t:List UInt8} {a n f:Nat} {e b:Int} (ha:a<s.length) (h:bY s a=(t,n,e)) (he:e≠0):bm (f+1) s a b=([],a,e):=by
 simp only[bm];rw[if_neg (by omega),h];simp only[];rw[if_neg he]
theorem eH {s:List UInt8} {a f:Nat} {b:Int} (ha:s.length<=a):bm f s a b=([],a,0):=by
 cases f with
 | zero=>rfl
 | succ f=>simp only[bm];rw[if_pos ha]
theorem mW {s:List UInt8}:∀ (g g' b:Nat) (o:Int),b<=s.length->s.length<b+g->s.length<b+g'->bm g s b o=bm g' s b o:=by
 intro g;induction g with
 | zero=>intro g' b o hb h1 h2;omega
 | succ g ih =>
  intro g' b o hb h1 h2;obtain⟨g2,rfl⟩:∃ g2,g'=g2+1:=⟨g'-1,by omega⟩
  rcases Nat.lt_or_ge b s.length with hbl|hbl
  ·obtain⟨⟨t',n',e'⟩,hx'⟩:∃ x,bY s b=x:=⟨_,rfl⟩;by_cases he':e'=0
   ·subst he';have hok':=nj hx';by_cases hg:(gc t').2=0
    ·by_cases ho:(gc t').1.at_=o
     ·rw[dN hbl hx' hg ho,dN hbl hx' hg ho,ih g2 n' _ hok'.2 (by omega) (by omega)]
     ·rw[eF hbl hx' hg ho,eF hbl hx' hg ho]
    ·rw[eS hbl hx' hg,eS hbl hx' hg]
   ·rw[dU hbl hx' he',dU hbl hx' he']
  ·rw[eH hbl,eH hbl]
theorem BM (n:Int) (hn : -9223372036854775808<=n∧n<9223372036854775808):call 136 [vi n] []=some (vb (eb n),[]):=by
 apply ah Md rfl;unfold eb;by_cases c:0<=n
 ·have e:IntKind.u64.wrap n=n:=ny ⟨c,by omega⟩
  by_cases c2:n<=1099511627776
  ·(simp(disch:=first|decide|omega|(intros;exact aj rfl rfl)|simp only[aa]) only[FU,e,c,c2,go_sem,seval,ai])
  ·(simp(disch:=first|decide|omega|(intros;exact aj rfl rfl)|simp only[aa]) only[FU,e,c,c2,go_sem,seval,ai])
 ·have e:IntKind.u64.wrap n=n+18446744073709551616:=by
   simp[IntKind.wrap,IntKind.bits,IntKind.signed];omega
  (simp(disch:=first|decide|omega|(intros;exact aj rfl rfl)|simp only[aa]) only[FU,e,c,Bool.false_and,go_sem,seval,ai])
theorem uu (xs:List L):call 137 [.one (.p 0 0)] [.cells xs]=some (.one (.f 144 [1]),[.cells xs,.cells [.p 0 0]]):=by
 apply ah MA rfl;(simp(disch:=first|decide|omega|(intros;exact aj rfl rfl)|simp only[aa]) only[KU,List.mapM_cons,List.mapM_nil,Option.pure_def,Option.bind_eq_bind,Option.bind_some,go_sem,seval,ai])
 simp[trim,V.refs,L.refs]
def gp (r:List (Rec × Nat) × Nat × Int):V:=.tup [(false,[.d (.l (r.1.map fun x=>x.1.enc))]),(false,[zI ((r.2.1:Nat):Int)]),(false,[zI r.2.2])]
def cP (s:List UInt8) (b:Int):List (Rec × Nat) × Nat × Int:=if eb b=true then bm (s.length+1) s 0 b else([],0,1)
def pE (l:List (Rec × Nat)):L:=match l with|[]=>.ns|_=>.sl 4 3 0 l.length
def pC (l:List (Rec × Nat)):Hp:=match l with|[]=>[]|_=>[.arr 3 (l.map fun x=>x.1.enc) 0]
theorem tA (s:List UInt8) (hs:s.length<=1000000) (b:Int) (hb : -9223372036854775808<=b∧b<9223372036854775808):call 107 [vs s,vi b] []=some (gp (cP s b),[]):=by
 apply IZ L4 rfl;have hg:=BM b hb;unfold cP gp;cases h:eb b with
 | false =>
  rw[h] at hg;(simp(disch:=first|decide|omega|(intros;exact aj rfl rfl)|simp only[aa]) only[I1,hg,go_sem,seval,ai,bg,A.kind,A.xs,aG,A.isN,sy])
  try simp
 | true =>
  rw[h] at hg;have c1:az call 137 [.one (.p 0 0)] [.cells [zS s,zI 0,zI b,zI 0],.cells [.ns]]=some (.one (.f 144 [2]),[.cells [zS s,zI 0,zI b,zI 0],.cells [.ns],.cells [.p 0 0]]) :=
   aP rfl rfl rfl (uu _) rfl
  (simp(disch:=first|decide|omega|(intros;exact aj rfl rfl)|simp only[aa]) only[I1,hg,c1,go_sem,seval,ai,bg,A.kind,A.xs,aG,A.isN,sy])
  rw[JQ (gf:=144) (caps:=[2]) (af:=Ja) (by rfl) Mo rfl]
  generalize hψ:eJ call _ _ _ _=ψ;(simp(disch:=first|decide|omega|(intros;exact aj rfl rfl)|simp only[aa]) only[Ja,go_sem,seval,ai,bg,A.kind,A.xs,aG,A.isN,ii,↓cq,↓bU])
  have hr:=fun(v:V) (H:Hp)=>(congrFun (congrFun hψ.symm [v]) H).trans (Ag _ _ _ _ _ [v] H rfl)
  clear hψ;have hb2:0<=b∧b<=1099511627776:=by simpa[eb] using h
  refine A3 (N:=82) (m:=4) (σ:=Nat × Int × List (Rec × Nat)) (fun t=>s.length-t.1) (fun t=>t.1<=s.length∧t.2.2.length<=t.1∧t.2.1=b+t.2.2.length) (fun t=>[V.one (.y 3 0),V.one (.p 2 0)])
   (fun t=>[.cells [zS s,zI t.1,zI t.2.1,zI 0],.cells [pE t.2.2],.cells [.p 0 0],.dead]++pC t.2.2)
   (fun t=>(gp (t.2.2++(bm (s.length+1-t.1) s t.1 t.2.1).1,(bm (s.length+1-t.1) s t.1 t.2.1).2),([]:Hp))) ?_ (0,b,[]) ⟨zP _,by simp,by simp⟩ _ _ bv
  rintro⟨a,nx,out⟩ ⟨ha,hout,hnx⟩ R hR;simp only at ha hout hnx;rcases Nat.lt_or_ge a s.length with h|h
  ·obtain⟨f,hf⟩:∃ f,s.length+1-a=f+1:=⟨s.length-a,by omega⟩
   have hn:=tK s a (by omega) (by omega)
   have htl:=jR s a;obtain⟨⟨t,n,e⟩,hx⟩:∃ x,bY s a=x:=⟨_,rfl⟩;rw[hx] at hn htl;by_cases he:e=0
   ·subst he;have hok:=nj hx;have hg:=CP t (by simp only[] at htl;omega)
    have hst := @dN s t a n f nx h hx;have hof := @eF s t a n f nx h hx;have hbd := @eS s t a n f nx h hx;obtain⟨⟨r,g⟩,hq⟩:∃ x,gc t=x:=⟨_,rfl⟩;rw[hq] at hg hst hof hbd;simp only[Cb] at hg hst hbd hof;by_cases hz:g=0
    ·subst hz;by_cases ho:r.at_=nx
     ·simp only[hf,hst rfl ho];subst ho;have e3:bm f s n (r.at_+1)=bm (s.length+1-n) s n (r.at_+1):=mW _ _ n _ hok.2 (by omega) (by omega)
      rcases out with _|⟨x,out⟩
      ·simp only[List.length_nil] at hnx hout;(simp(disch:=first|decide|omega|(intros;exact aj rfl rfl)|simp only[aa]) only[gZ,hn,cu,hg,Rec.len,Rec.tk,Rec.tkL,Rec.dat,Rec.lenL,Rec.enc,List.map_cons,List.map_nil,List.getElem?_cons_zero,pE,pC,List.append_nil,go_sem,seval,ai,bg,A.kind,A.xs,aG,A.isN,ii,↓cq,↓bU])
       rw[hr];(simp(disch:=first|decide|omega|(intros;exact aj rfl rfl)|simp only[aa]) only[ii,go_sem,seval,ai,bg,A.kind,A.xs,aG,A.isN])
       (simp(disch:=first|decide|omega|(intros;exact aj rfl rfl)|simp only[aa]) only[go_sem,seval,ai,bg,A.kind,A.xs,aG,A.isN,ii,↓cq,↓bU])
       have hR':=hR (n,r.at_+1,[(r,a)]) (by simp only[];omega) ⟨hok.2,by simp;omega,by simp;omega⟩
       simp only[List.singleton_append,<- e3] at hR';exact hR' _ _ bv
      ·simp only[List.length_cons] at hnx hout;(simp(disch:=first|decide|omega|(intros;exact aj rfl rfl)|simp only[aa]) only[gZ,hn,cu,hg,Rec.len,Rec.tk,Rec.tkL,Rec.dat,Rec.lenL,Rec.enc,List.map_cons,List.map_nil,List.getElem?_cons_zero,pE,pC,List.append_nil,go_sem,seval,ai,bg,A.kind,A.xs,aG,A.isN,ii,↓cq,↓bU])
       rw[hr];(simp(disch:=first|decide|omega|(intros;exact aj rfl rfl)|simp only[aa]) only[ii,go_sem,seval,ai,bg,A.kind,A.xs,aG,A.isN])
       (simp(disch:=first|decide|omega|(intros;exact aj rfl rfl)|simp only[aa]) only[go_sem,seval,ai,bg,A.kind,A.xs,aG,A.isN,ii,↓cq,↓bU])
       have hR':=hR (n,r.at_+1,(x::out)++[(r,a)]) (by simp only[];omega) ⟨hok.2,by simp;omega,by simp;omega⟩
       simp only[List.append_assoc,List.singleton_append,<- e3,pE,pC,List.cons_append,List.length_cons,zA,List.length_nil,Nat.zero_add,List.map_cons,List.map_append,List.map_nil,Rec.enc] at hR';exact hR' _ _ bv
     ·simp only[hf,hof rfl ho];rcases out with _|⟨x,out⟩
      ·(simp(disch:=first|decide|omega|(intros;exact aj rfl rfl)|simp only[aa]) only[gZ,hn,cu,hg,Rec.len,Rec.tk,Rec.tkL,Rec.dat,Rec.lenL,Rec.enc,List.map_cons,List.map_nil,List.getElem?_cons_zero,pE,pC,List.append_nil,ho,go_sem,seval,ai,bg,A.kind,A.xs,aG,A.isN,ii,↓cq,↓bU])
       rw[oN (q:=3) (k:=0) (by decide) rfl]
       (simp(disch:=first|decide|omega|(intros;exact aj rfl rfl)|simp only[aa]) only[ii,Rec.len,Rec.tk,Rec.tkL,Rec.dat,Rec.lenL,Rec.enc,List.map_cons,List.map_nil,go_sem,seval,ai,bg,A.kind,A.xs,aG,A.isN,sy])
       simp[gp,Rec.enc]
      ·simp only[List.length_cons] at hnx hout;(simp(disch:=first|decide|omega|(intros;exact aj rfl rfl)|simp only[aa]) only[gZ,hn,cu,hg,Rec.len,Rec.tk,Rec.tkL,Rec.dat,Rec.lenL,Rec.enc,List.map_cons,List.map_nil,List.getElem?_cons_zero,pE,pC,List.append_nil,ho,go_sem,seval,ai,bg,A.kind,A.xs,aG,A.isN,ii,↓cq,↓bU])
       rw[oN (q:=3) (k:=0) (by decide) rfl]
       (simp(disch:=first|decide|omega|(intros;exact aj rfl rfl)|simp only[aa]) only[ii,Rec.len,Rec.tk,Rec.tkL,Rec.dat,Rec.lenL,Rec.enc,List.map_cons,List.map_nil,go_sem,seval,ai,bg,A.kind,A.xs,aG,A.isN,sy])
       simp[gp,Rec.enc]
    ·simp only[hf,hbd hz];rcases out with _|⟨x,out⟩
     ·(simp(disch:=first|decide|omega|(intros;exact aj rfl rfl)|simp only[aa]) only[gZ,hn,cu,hg,Rec.len,Rec.tk,Rec.tkL,Rec.dat,Rec.lenL,Rec.enc,List.map_cons,List.map_nil,List.getElem?_cons_zero,pE,pC,List.append_nil,hz,go_sem,seval,ai,bg,A.kind,A.xs,aG,A.isN,ii,↓cq,↓bU])
      rw[oN (q:=3) (k:=0) (by decide) rfl]
      (simp(disch:=first|decide|omega|(intros;exact aj rfl rfl)|simp only[aa]) only[ii,Rec.len,Rec.tk,Rec.tkL,Rec.dat,Rec.lenL,Rec.enc,List.map_cons,List.map_nil,go_sem,seval,ai,bg,A.kind,A.xs,aG,A.isN,sy])
      simp[gp,Rec.enc]
     ·simp only[List.length_cons] at hnx hout;(simp(disch:=first|decide|omega|(intros;exact aj rfl rfl)|simp only[aa]) only[gZ,hn,cu,hg,Rec.len,Rec.tk,Rec.tkL,Rec.dat,Rec.lenL,Rec.enc,List.map_cons,List.map_nil,List.getElem?_cons_zero,pE,pC,List.append_nil,hz,go_sem,seval,ai,bg,A.kind,A.xs,aG,A.isN,ii,↓cq,↓bU])
      rw[oN (q:=3) (k:=0) (by decide) rfl]
      (simp(disch:=first|decide|omega|(intros;exact aj rfl rfl)|simp only[aa]) only[ii,Rec.len,Rec.tk,Rec.tkL,Rec.dat,Rec.lenL,Rec.enc,List.map_cons,List.map_nil,go_sem,seval,ai,bg,A.kind,A.xs,aG,A.isN,sy])
      simp[gp,Rec.enc]
   ·simp only[hf,dU h hx he];rcases out with _|⟨x,out⟩
    ·(simp(disch:=first|decide|omega|(intros;exact aj rfl rfl)|simp only[aa]) only[gZ,hn,cu,hg,Rec.len,Rec.tk,Rec.tkL,Rec.dat,Rec.lenL,Rec.enc,List.map_cons,List.map_nil,List.getElem?_cons_zero,pE,pC,List.append_nil,he,go_sem,seval,ai,bg,A.kind,A.xs,aG,A.isN,ii,↓cq,↓bU])
     rw[oN (q:=3) (k:=0) (by decide) rfl]
     (simp(disch:=first|decide|omega|(intros;exact aj rfl rfl)|simp only[aa]) only[ii,Rec.len,Rec.tk,Rec.tkL,Rec.dat,Rec.lenL,Rec.enc,List.map_cons,List.map_nil,go_sem,seval,ai,bg,A.kind,A.xs,aG,A.isN,sy])
     simp[gp,Rec.enc]
    ·simp only[List.length_cons] at hnx hout;(simp(disch:=first|decide|omega|(intros;exact aj rfl rfl)|simp only[aa]) only[gZ,hn,cu,hg,Rec.len,Rec.tk,Rec.tkL,Rec.dat,Rec.lenL,Rec.enc,List.map_cons,List.map_nil,List.getElem?_cons_zero,pE,pC,List.append_nil,he,go_sem,seval,ai,bg,A.kind,A.xs,aG,A.isN,ii,↓cq,↓bU])
     rw[oN (q:=3) (k:=0) (by decide) rfl]
     (simp(disch:=first|decide|omega|(intros;exact aj rfl rfl)|simp only[aa]) only[ii,Rec.len,Rec.tk,Rec.tkL,Rec.dat,Rec.lenL,Rec.enc,List.map_cons,List.map_nil,go_sem,seval,ai,bg,A.kind,A.xs,aG,A.isN,sy])
     simp[gp,Rec.enc]
  ·rw[eH h];have ea:a=s.length:=by omega
   rcases out with _|⟨x,out⟩
   ·(simp(disch:=first|decide|omega|(intros;exact aj rfl rfl)|simp only[aa]) only[gZ,Rec.len,Rec.tk,Rec.tkL,Rec.dat,Rec.lenL,Rec.enc,List.map_cons,List.map_nil,List.getElem?_cons_zero,pE,pC,List.append_nil,ea,go_sem,seval,ai,bg,A.kind,A.xs,aG,A.isN,ii,↓cq,↓bU])
    rw[Df (q:=3) (k:=0) (by decide) rfl]
    (simp(disch:=first|decide|omega|(intros;exact aj rfl rfl)|simp only[aa]) only[ii,Rec.len,Rec.tk,Rec.tkL,Rec.dat,Rec.lenL,Rec.enc,List.map_cons,List.map_nil,go_sem,seval,ai,bg,A.kind,A.xs,aG,A.isN,sy])
    simp[gp,Rec.enc]
   ·simp only[List.length_cons] at hnx hout;(simp(disch:=first|decide|omega|(intros;exact aj rfl rfl)|simp only[aa]) only[gZ,Rec.len,Rec.tk,Rec.tkL,Rec.dat,Rec.lenL,Rec.enc,List.map_cons,List.map_nil,List.getElem?_cons_zero,pE,pC,List.append_nil,ea,go_sem,seval,ai,bg,A.kind,A.xs,aG,A.isN,ii,↓cq,↓bU])
    rw[Df (q:=3) (k:=0) (by decide) rfl]
    (simp(disch:=first|decide|omega|(intros;exact aj rfl rfl)|simp only[aa]) only[ii,Rec.len,Rec.tk,Rec.tkL,Rec.dat,Rec.lenL,Rec.enc,List.map_cons,List.map_nil,go_sem,seval,ai,bg,A.kind,A.xs,aG,A.isN,sy])
    simp[gp,Rec.enc]
def Ju (x:Rec × Nat):List D:=[.i .i64 x.2]
def gB (r:List (Rec × Nat) × Nat × Int):V:=.tup [(false,[.d (.l (r.1.map fun x=>x.1.enc))]),(false,[.d (.l (r.1.map Ju))]),(false,[zI ((r.2.1:Nat):Int)]),(false,[zI r.2.2])]
theorem vh (s:List UInt8) (hs:s.length<=1000000) (b:Int) (hb : -9223372036854775808<=b∧b<9223372036854775808):call 114 [vs s,vi b] []=some (gB (cP s b),[]):=by
 apply ah MH rfl;unfold cP;cases ho:eb b with
 | false =>
  by_cases c0:b<0
  ·(simp(disch:=first|decide|omega|(intros;exact aj rfl rfl)|simp only[aa]) only[Gv,c0,go_sem,seval,ai])
   simp[gB]
  ·have c1:¬ b<=1099511627776:=by simpa[eb,Int.not_lt.1 c0] using ho
   (simp(disch:=first|decide|omega|(intros;exact aj rfl rfl)|simp only[aa]) only[Gv,c0,c1,go_sem,seval,ai])
   simp[gB]
 | true =>
  have hb2:0<=b∧b<=1099511627776:=by simpa[eb] using ho
  (simp(disch:=first|decide|omega|(intros;exact aj rfl rfl)|simp only[aa]) only[Gv,go_sem,seval,ai])
  refine gY (σ:=Nat × Int × List (Rec × Nat)) (fun t=>s.length-t.1) (fun t=>t.1<=s.length∧t.2.2.length<=t.1∧t.2.1=b+t.2.2.length) (fun t=>[vs s,vi b,.one (.sl 0 3 0 t.2.2.length),.one (.sl 1 1 0 t.2.2.length),vi t.1]) (fun t=>[.arr 3 (t.2.2.map fun x=>x.1.enc) 0,.arr 1 (t.2.2.map Ju) 0])
   (fun t=>(gB (t.2.2++(bm (s.length+1-t.1) s t.1 t.2.1).1,(bm (s.length+1-t.1) s t.1 t.2.1).2),([]:Hp))) ?_ (0,b,[]) ⟨zP _,by simp,by simp⟩ _ _ (at_head2 (by decide) (by simp only[List.map_cons,List.map_nil,go_sem,seval];exact rfl) (by simp[aL,aI,ay,aJ,ax,V.ren,L.ren,Box.ren,V.refs,L.refs,Box.refs,true_and]) (by simp[aL,aI,ay,aJ,ax,V.ren,L.ren,Box.ren,V.refs,L.refs,Box.refs,true_and]))
  rintro⟨a,nx,out⟩ ⟨ha,hout,hnx⟩ R hR;simp only at ha hout hnx;rcases Nat.lt_or_ge a s.length with h|h
  ·obtain⟨f,hf⟩:∃ f,s.length+1-a=f+1:=⟨s.length-a,by omega⟩
   have hn:=nT s a (by omega) (by omega)
   have htl:=jR s a;obtain⟨⟨t,n,e⟩,hx⟩:∃ x,bY s a=x:=⟨_,rfl⟩;rw[hx] at hn htl;by_cases he:e=0
   ·subst he;have hok:=nj hx;have hg:=wU t (by simp only[] at htl;omega)
    have hst := @dN s t a n f nx h hx;have hof := @eF s t a n f nx h hx;have hbd := @eS s t a n f nx h hx;obtain⟨⟨r,g⟩,hq⟩:∃ x,gc t=x:=⟨_,rfl⟩;rw[hq] at hg hst hof hbd;simp only[Cb] at hg hst hof hbd;by_cases hz:g=0
    ·subst hz;by_cases ho:r.at_=nx
     ·simp only[hf,hst rfl ho];have e3:bm f s n (nx+1)=bm (s.length+1-n) s n (nx+1):=mW _ _ n _ hok.2 (by omega) (by omega)
      have hm:List.map (fun x:Rec × Nat=>x.1.enc) out++[r.enc]=List.map (fun x=>x.1.enc) (out++[(r,a)]):=by simp
      have hm2:List.map Ju out++[[D.i IntKind.i64 a]]=List.map Ju (out++[(r,a)]):=by simp[Ju]
      have fd:(r.enc.map L.d)[0]?=some (zI nx):=by rw[Rec.fd0,ho]
      (simp(disch:=first|decide|omega|(intros;exact aj rfl rfl)|simp only[aa]) only[oD,hn,cu,hg,Rec.len,Rec.tk,Rec.tkL,Rec.dat,Rec.lenL,fd,<- hnx,go_sem,seval,ai])
      have hR':=hR (n,nx+1,out++[(r,a)]) (by simp only[];omega) ⟨hok.2,by simp;omega,by simp;omega⟩
      simp only[List.append_assoc,List.singleton_append,zA,List.length_cons,List.length_nil,Nat.zero_add,Int.natCast_add,Int.natCast_one,<- Int.add_assoc,<- e3] at hR';exact hR' _ _ (at_head2 (by decide) (by simp only[List.map_cons,List.map_nil,go_sem,seval];exact rfl) (by simp[aL,aI,ay,aJ,ax,V.ren,L.ren,Box.ren,V.refs,L.refs,Box.refs,Rec.rfs,Rec.rn,Ju]) (by simp[aL,aI,ay,aJ,ax,V.ren,L.ren,Box.ren,V.refs,L.refs,Box.refs,Rec.rfs,Rec.rn,Ju]))
     ·simp only[hf,hof rfl ho];(simp(disch:=first|decide|omega|(intros;exact aj rfl rfl)|simp only[aa]) only[oD,hn,cu,hg,gB,Rec.len,Rec.tk,Rec.tkL,Rec.dat,Rec.lenL,Rec.fd0,ho,<- hnx,go_sem,seval,ai])
      try simp
    ·simp only[hf,hbd hz];(simp(disch:=first|decide|omega|(intros;exact aj rfl rfl)|simp only[aa]) only[oD,hn,cu,hg,gB,Rec.len,Rec.tk,Rec.tkL,Rec.dat,Rec.lenL,go_sem,seval,ai])
     try simp
   ·simp only[hf,dU h hx he];(simp(disch:=first|decide|omega|(intros;exact aj rfl rfl)|simp only[aa]) only[oD,hn,cu,gB,go_sem,seval,ai])
    try simp
  ·have hal:a=s.length:=by omega
   subst hal;simp only[eH (Nat.le_refl _)];(simp(disch:=first|decide|omega|(intros;exact aj rfl rfl)|simp only[aa]) only[oD,gB,go_sem,seval,ai])
   try simp
theorem nh (s:List UInt8) (hs:s.length<=1000000) (b:Int) (hb : -9223372036854775808<=b∧b<9223372036854775808):call 67 [vs s,vi b] []=some (gp (cP s b),[]):=by
 apply ah Oc rfl;have hp:=vh s hs b hb;unfold gB at hp;(simp(disch:=first|decide|omega|(intros;exact aj rfl rfl)|simp only[aa]) only[Nl,hp,gp,go_sem,seval,ai])
theorem wy {s:List UInt8}:∀ (f a:Nat) (b:Int),a<=s.length->(bm f s a b).1.length+a<=s.length:=by
 intro f;induction f with
 | zero=>intro a b h;simpa[bm] using h
 | succ f ih =>
  intro a b h;rcases Nat.lt_or_ge a s.length with hal|hal
  ·obtain⟨⟨t,n,e⟩,hx⟩:∃ x,bY s a=x:=⟨_,rfl⟩;by_cases he:e=0
   ·subst he;have:=nj hx;by_cases hg:(gc t).2=0
    ·by_cases ho:(gc t).1.at_=b
     ·rw[dN hal hx hg ho];have:=ih n (b+1) (by omega)
      simp only[List.length_cons];omega
     ·rw[eF hal hx hg ho];simpa using h
    ·rw[eS hal hx hg];simpa using h
   ·rw[dU hal hx he];simpa using h
  ·rw[eH hal];simpa using h
theorem jE (s:List UInt8) (b:Int):(cP s b).1.length<=s.length:=by
 unfold cP;split
 ·have:=wy (s:=s) (s.length+1) 0 b (zP _);omega
 ·simp
def numB (b:Int) (l:List Rec):Prop:=∀ k (h:k<l.length),l[k].at_=b+k
abbrev Txt:=List UInt8
def bl (a b:Txt):Bool:=Op.bytesLess a b
theorem Cy (a:Txt):bl a []=false:=by cases a <;> rfl
theorem pJ (a b:UInt8) (x y:Txt):bl (a::x) (b::y)=(decide (a<b) || (a == b && bl x y)):=rfl
theorem kB:∀ a:Txt,bl a a=false
 | []=>rfl
 | a::x=>by rw[pJ,kB x];simp
theorem uq:∀ a b:Txt,bl a b=true∨a=b∨bl b a=true
 | [],[]=>.inr (.inl rfl)
 | [],_::_=>.inl rfl
 | _::_,[]=>.inr (.inr rfl)
 | a::x,b::y=>by
  rw[pJ,pJ];by_cases h:a=b
  ·subst h;rcases uq x y with h|h|h
   ·left;simp[h]
   ·right;left;rw[h]
   ·right;right;simp[h]
  ·rcases Nat.lt_or_ge a.toNat b.toNat with h2|h2
   ·left;have:a<b:=h2;simp[this]
   ·right;right
    have:b<a:=by
     show b.toNat<a.toNat;have:a.toNat≠b.toNat:=fun e=>h (UInt8.toNat_inj.1 e)
     omega
    simp[this]
theorem rS:∀ {a b c:Txt},bl a b=true->bl b c=true->bl a c=true
 | _,[],_,h,_=>by rw[Cy] at h;cases h
 | _,_::_,[],_,h=>by rw[Cy] at h;cases h
 | [],_::_,_::_,_,_=>rfl
 | a::x,b::y,c::z,h1,h2=>by
  rw[pJ] at *;simp only[Bool.or_eq_true,Bool.and_eq_true,decide_eq_true_eq,beq_iff_eq] at *;rcases h1 with h1|⟨rfl,h1⟩
  ·rcases h2 with h2|⟨rfl,h2⟩
   ·left;exact UInt8.lt_trans h1 h2
   ·left;exact h1
  ·rcases h2 with h2|⟨rfl,h2⟩
   ·left;exact h2
   ·right;exact⟨rfl,rS h1 h2⟩
theorem Fy {a b:Txt} (h:bl a b=true):bl b a=false:=by
 cases h2:bl b a with
 | false=>rfl
 | true=>have:=rS h h2;rw[kB] at this;cases this
theorem Ee {a b:Txt} (h:bl a b=true):a≠b:=fun e=>by rw[e,kB] at h;cases h
structure Fil where
 name:List UInt8
 data:List UInt8
 sure:Int
 deriving DecidableEq
def Fil.enc (e:Fil):List D:=[.s e.name,.s e.data,.i .i64 e.sure]
theorem Fil.len (e:Fil):e.enc.length=3:=Eq.trans rfl rfl
theorem Fil.tk (e:Fil):e.enc.take 3=e.enc:=Eq.trans rfl rfl
theorem Fil.tkL (e:Fil):(e.enc.map L.d).take 3=e.enc.map L.d:=Eq.trans rfl rfl
theorem Fil.lenL (e:Fil):(e.enc.map L.d).length=3:=Eq.trans rfl rfl
theorem Fil.at0 (e:Fil):e.enc[0]?=some (.s e.name):=Eq.trans rfl rfl
theorem Fil.at1 (e:Fil):(e.enc.drop 1)[0]?=some (.s e.data):=Eq.trans rfl rfl
theorem Fil.fd1 (e:Fil):(e.enc.map L.d)[1]?=some (zS e.data):=Eq.trans rfl rfl
theorem Fil.up1 (e:Fil) (x:List UInt8):e.enc.take 1++[.s x]++e.enc.drop 2=({ e with data:=x }:Fil).enc:=Eq.trans rfl rfl
theorem Fil.up2 (e:Fil) (x:Int):e.enc.take 2++[.i .i64 x]++e.enc.drop 3=({ e with sure:=x }:Fil).enc:=Eq.trans rfl rfl
def Fil.ok (e:Fil):Prop:=e.name.length<=9223372036854775807∧e.data.length<=9223372036854775807∧(-9223372036854775808<=e.sure∧e.sure<9223372036854775808)
def Fil.ty:List Ty:=[.s,.s,.i .i64]
theorem Fil.eqs (a b:Fil):j5 [2,2,0] (a.enc.map L.d) (b.enc.map L.d)=some (decide (a=b)):=by
 cases a;cases b;simp only[Fil.enc,List.map_cons,List.map_nil,j5,sC,if_true,Fil.mk.injEq];congr 1
 rw[Bool.eq_iff_iff];simp only[Bool.and_eq_true,beq_iff_eq,decide_eq_true_eq,and_true]
structure Dsk where
 files:List Fil
 cap:Int
 armed:Bool
 left:Int
 down:Bool
def Dsk.l (d:Dsk):List L:=[.d (.l (d.files.map Fil.enc)),zI d.cap,zB d.armed,zI d.left,zB d.down]
def hI (s:Txt):Bool:=decide (s≠[]) && decide (s.length<=32)
theorem qt (s:Txt):call 122 [vs s] []=some (vb (hI s),[]):=by
 apply ah Mt rfl;by_cases h:s=[]
 ·subst h;have e:(([]:Txt) == [])=true:=rfl;(simp(disch:=first|decide|omega|(intros;exact aj rfl rfl)|simp only[aa]) only[Hb,e,go_sem,seval,ai])
  try rfl
 ·have e:(s == [])=false:=by rw[beq_eq_false_iff_ne];exact h
  by_cases h2:s.length<=32
  ·(simp(disch:=first|decide|omega|(intros;exact aj rfl rfl)|simp only[aa]) only[Hb,e,h2,go_sem,seval,ai])
   simp[hI,h,h2]
  ·(simp(disch:=first|decide|omega|(intros;exact aj rfl rfl)|simp only[aa]) only[Hb,e,h2,go_sem,seval,ai])
   simp[hI,h,h2]
def srt (l:List Fil):Prop:=l.Pairwise fun a b=>bl a.name b.name=true
def aw (l:List Fil) (n:Txt):Nat:=l.countP fun f=>bl f.name n
def bA (l:List Fil) (n:Txt):Bool:=match l[aw l n]? with|some f=>decide (f.name=n)|none=>false
theorem vJ {α:Type} (p:α->Bool):∀ (l:List α),l.Pairwise (fun a b=>p b=true->p a=true)->∀ i (h:i<l.length),(p l[i]=true↔i<l.countP p)
 | [],_,i,h=>by simp at h
 | a::l,hp,i,h=>by
  rw[List.pairwise_cons] at hp;cases i with
  | zero =>
   rw[List.getElem_cons_zero,List.countP_cons];constructor
   ·intro h2;simp[h2]
   ·intro h2;by_cases hc:p a=true
    ·exact hc
    ·simp only[hc,Bool.false_eq_true,↓reduceIte,Nat.add_zero] at h2;rw[List.countP_pos_iff] at h2;obtain⟨b,hb,hpb⟩:=h2;exact hp.1 b hb hpb
  | succ i =>
   simp only[List.length_cons,Nat.add_lt_add_iff_right] at h;rw[List.getElem_cons_succ,vJ p l hp.2 i h,List.countP_cons];by_cases hc:p a=true
   ·simp[hc]
   ·simp only[hc,Bool.false_eq_true,↓reduceIte,Nat.add_zero];constructor
    ·intro h2;exfalso;have:0<l.countP p:=by omega
     rw[List.countP_pos_iff] at this;obtain⟨b,hb,hpb⟩:=this;exact hc (hp.1 b hb hpb)
    ·intro h2;exfalso;have:0<l.countP p:=by omega
     rw[List.countP_pos_iff] at this;obtain⟨b,hb,hpb⟩:=this;exact hc (hp.1 b hb hpb)
theorem gC {l:List Fil} (hs:srt l) (n:Txt) (i:Nat) (h:i<l.length):bl l[i].name n=true↔i<aw l n :=
 vJ (fun f=>bl f.name n) l (hs.imp fun hab hb=>rS hab hb) i h
theorem mq (l:List Fil) (n:Txt):aw l n<=l.length:=List.countP_le_length
def mA (a b:Txt):Int:=if bl a b=true then -1 else if bl b a=true then 1 else 0
theorem E6 (f:Fil) (n:Txt):call 85 [.agg (f.enc.map .d),vs n] []=some (vi (mA f.name n),[]):=by
 apply ah Oz rfl;unfold mA bl;cases h:Op.bytesLess f.name n with
 | true =>
  (simp(disch:=first|decide|omega|(intros;exact aj rfl rfl)|simp only[aa]) only[LF,Fil.enc,List.map_cons,List.map_nil,h,go_sem,seval,ai])
  try simp
 | false =>
  rcases uq f.name n with h1|h1|h1
  ·unfold bl at h1;rw[h] at h1;cases h1
  ·have e:(f.name == n)=true:=by rw[h1];exact beq_self_eq_true _
   have h2:Op.bytesLess n f.name=false:=by rw[h1];exact kB n
   (simp(disch:=first|decide|omega|(intros;exact aj rfl rfl)|simp only[aa]) only[LF,Fil.enc,List.map_cons,List.map_nil,h,e,go_sem,seval,ai])
   try simp[h2]
  ·have e:(f.name == n)=false:=by rw[beq_eq_false_iff_ne];exact fun e=>Ee h1 e.symm
   have h2:Op.bytesLess n f.name=true:=h1;(simp(disch:=first|decide|omega|(intros;exact aj rfl rfl)|simp only[aa]) only[LF,Fil.enc,List.map_cons,List.map_nil,h,e,go_sem,seval,ai])
   try simp[h2]
theorem KK (f:Fil) (n:Txt) (H:Hp):az call 85 [.agg (f.enc.map .d),vs n] H=some (vi (mA f.name n),H):=callIso_pure rfl (E6 f n) rfl
theorem pZ (a b:Txt):mA a b<0↔bl a b=true:=by unfold mA;split <;> simp_all;split <;> omega
theorem nO {a b:Txt}:mA a b=0↔a=b:=by
 unfold mA;rcases uq a b with h|h|h
 ·simp[h,Ee h]
 ·subst h;simp[kB]
 ·simp[h,Fy h];exact fun e=>Ee h e.symm
end Go.Proofs.YtghfhomfppbooaaGreat
