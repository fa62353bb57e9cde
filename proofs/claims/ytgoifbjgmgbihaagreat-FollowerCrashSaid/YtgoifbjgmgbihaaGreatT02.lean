import Derived.Test.YtgoifbjgmgbihaaGreatXZ23Tab
import Derived.Test.YtgoifbjgmgbihaaGreatVid
set_option linter.unusedSimpArgs false
set_option linter.unusedVariables false
set_option maxRecDepth 20000
set_option maxHeartbeats 16000000
namespace Go.Proofs.YtgoifbjgmgbihaaGreat
open Go.Vi
theorem C9 (sum:jn) (s:List UInt8) (hs:s.length<=9223372036854775807):call 53 [vk .u32 ((sum.toNat:Nat):Int),vs s] []=some (vk .u32 (((cr sum s).toNat:Nat):Int),[]):=by
 apply ae Wo rfl;(simp(disch:=first|decide|omega|(intros;exact aP rfl rfl)|simp only[am]) only[VE,↓kD,go_sem,seval,aO])
 refine io (σ:=Nat) (fun k=>s.length-k) (fun k=>k<=s.length) (fun k=>[vs s,vk .u32 ((((s.take k).foldl qC (~~~sum)).toNat:Nat):Int),vi k]) (fun _=>(vk .u32 (((cr sum s).toNat:Nat):Int),[])) (fun _=>by simp only[go_sem,seval]) ?_ 0 (zP _) _ (by simp[go_sem,seval])
 intro k hk R hR;rcases Nat.lt_or_ge k s.length with h|h
 ·(simp(disch:=first|decide|omega|(intros;exact aP rfl rfl)|simp only[am]) only[H4,↓kD,nT s k h,vY,go_sem,seval,aO])
  have e1:(s.take (k+1)).foldl qC (~~~sum)=qC ((s.take k).foldl qC (~~~sum)) s[k]:=by rw[gd s k h,List.foldl_append];rfl
  generalize (s.take k).foldl qC (~~~sum)=x at *;refine io (σ:=Nat) (fun j=>8-j) (fun j=>j<=8) (fun j=>[vs s,vk .u32 (((fY j (x ^^^ BitVec.ofNat 32 s[k].toNat)).toNat:Nat):Int),vi k,vi j]) (fun _=>(vk .u32 (((cr sum s).toNat:Nat):Int),[])) (fun _=>by simp only[go_sem,seval]) ?_ 0 (zP _) _ (by simp[fY,go_sem,seval])
  intro j hj R2 hR2;rcases Nat.lt_or_ge j 8 with hj8|hj8
  ·have e2:fY (j+1) (x ^^^ BitVec.ofNat 32 s[k].toNat)=lW (fY j (x ^^^ BitVec.ofNat 32 s[k].toNat)):=qN j 1 _;generalize fY j (x ^^^ BitVec.ofNat 32 s[k].toNat)=y at *;cases hb:y.getLsbD 0 with
   | true =>
    have e3:lW y=(y >>> 1) ^^^ crcP:=by unfold lW;rw[hb];rfl
    (simp(disch:=first|decide|omega|(intros;exact aP rfl rfl)|simp only[am]) only[Ar,↓kD,hb,go_sem,seval,aO])
    exact hR2 (j+1) (by omega) (by omega) _ (by simp[e2,e3,go_sem,seval])
   | false =>
    have e3:lW y=y >>> 1:=by unfold lW;rw[hb];rfl
    (simp(disch:=first|decide|omega|(intros;exact aP rfl rfl)|simp only[am]) only[Ar,↓kD,hb,go_sem,seval,aO])
    exact hR2 (j+1) (by omega) (by omega) _ (by simp[e2,e3,go_sem,seval])
  ·have:j=8:=by omega
   subst this;refine bd ?_ Ar.eq_1;exact hR (k+1) (by omega) (by omega) _ (by simp[e1,qC,go_sem,seval])
 ·(simp(disch:=first|decide|omega|(intros;exact aP rfl rfl)|simp only[am]) only[H4,↓kD,go_sem,seval,aO])
  rw[zL h];rfl
theorem pf (s:List UInt8) (hs:s.length<=9223372036854775807):call 30 [vs s] []=some (vk .u32 (((cr 0#32 s).toNat:Nat):Int),[]):=by
 apply ae W4 rfl;have h:call 53 [vk .u32 0,vs s] []=some (vk .u32 (((cr 0#32 s).toNat:Nat):Int),[]):=C9 0#32 s hs
 (refine bd ?_ V1.eq_1 h;try exact True.intro)
theorem rR (x:jn):call 162 [vk .u32 ((x.toNat:Nat):Int)] []=some (vs (dN x),[]):=by
 apply ae Ut rfl;(simp(disch:=first|decide|omega|(intros;exact aP rfl rfl)|simp only[am]) only[QO,↓kD,jI,kX,gR,vo,dN,List.replicate,go_sem,seval,aO])
theorem pG (x:jn):call 76 [vk .u32 ((x.toNat:Nat):Int)] []=some (vs (dN x),[]):=by
 apply ae WA rfl;(simp(disch:=first|decide|omega|(intros;exact aP rfl rfl)|simp only[am]) only[V2,↓kD,jI,kX,gR,vo,dN,List.replicate,go_sem,seval,aO])
theorem Dj:call 120 [] []=some (.agg tabW,[]):=by
 apply ae U5 rfl;refine bd ?_ QV.eq_1;refine ka (σ:=Nat) (fun k=>16-k) (fun k=>k<=16) (fun k=>[.one (.p 0 0),.one (.p 1 0),vi k]) (fun k=>[.cells (ju 0),.cells (ju k)]) (fun _=>(V.agg tabW,([]:Hp))) ?_ 0 (zP _) _ _ ?_
 ·intro k hk R hR;rcases Nat.lt_or_ge k 16 with h|h
  ·(simp(disch:=first|decide|omega|(intros;exact aP rfl rfl)|simp only[am]) only[CY,↓kD,go_sem,seval,aO])
   have e0:k % 4294967296=k:=Nat.mod_eq_of_lt (by omega)
   refine ka (σ:=Nat) (fun j=>4-j) (fun j=>j<=4) (fun j=>[.one (.p 0 0),.one (.p 1 0),vi k,vk .u32 (((fY j (BitVec.ofNat 32 k)).toNat:Nat):Int),vi k,vi j]) (fun _=>[.cells (ju 0),.cells (ju k)]) (fun _=>(V.agg tabW,([]:Hp))) ?_ 0 (zP _) _ _ ?_
   ·intro j hj R2 hR2;rcases Nat.lt_or_ge j 4 with hj4|hj4
    ·have e2:fY (j+1) (BitVec.ofNat 32 k)=lW (fY j (BitVec.ofNat 32 k)):=qN j 1 _;generalize fY j (BitVec.ofNat 32 k)=y at *;(simp(disch:=first|decide|omega|(intros;exact aP rfl rfl)|simp only[am]) only[yV,↓kD,↓TN,↓Ho,<- nS,go_sem,seval,aO])
     exact hR2 (j+1) (by omega) (by omega) _ _ (at_head2 (by decide) (by simp only[List.map_cons,List.map_nil,go_sem,seval];exact rfl) (by simp[aI,aD,ax,aE,aw,V.ren,L.ren,Box.ren,V.refs,L.refs,Box.refs,e2,ij,ko]) (by simp[aI,aD,ax,aE,aw,V.ren,L.ren,Box.ren,V.refs,L.refs,Box.refs,e2,ij,ko]))
    ·have:j=4:=by omega
     subst this;(simp(disch:=first|decide|omega|(intros;exact aP rfl rfl)|simp only[am]) only[yV,↓kD,nC,JI k h,go_sem,seval,aO])
     exact hR (k+1) (by omega) (by omega) _ _ (at_head2 (by decide) (by simp only[List.map_cons,List.map_nil,go_sem,seval];exact rfl) (by simp[aI,aD,ax,aE,aw,V.ren,L.ren,Box.ren,V.refs,L.refs,Box.refs,ij,ko]) (by simp[aI,aD,ax,aE,aw,V.ren,L.ren,Box.ren,V.refs,L.refs,Box.refs,ij,ko]))
   ·exact(at_head2 (by decide) (by simp only[List.map_cons,List.map_nil,go_sem,seval];exact rfl) (by simp[aI,aD,ax,aE,aw,V.ren,L.ren,Box.ren,V.refs,L.refs,Box.refs,fY,ij,ko,e0]) (by simp[aI,aD,ax,aE,aw,V.ren,L.ren,Box.ren,V.refs,L.refs,Box.refs,fY,ij,ko,e0]))
  ·have:k=16:=by omega
   subst this;have ed:(ju 0).drop 16=[]:=zC (by rw[nC];exact Nat.le_refl _)
   have et:tabW.take 16=tabW:=zL (by rw[uN];exact Nat.le_refl _)
   (simp(disch:=first|decide|omega|(intros;exact aP rfl rfl)|simp only[am]) only[CY,↓kD,xV,uN,nC,ed,et,NJ,tabW_pure,go_sem,seval,aO])
 ·exact(at_head2 (by decide) (by simp only[List.map_cons,List.map_nil,go_sem,seval];exact rfl) (by simp[aI,aD,ax,aE,aw,V.ren,L.ren,Box.ren,V.refs,L.refs,Box.refs,Ia]) (by simp[aI,aD,ax,aE,aw,V.ren,L.ren,Box.ren,V.refs,L.refs,Box.refs,Ia]))
theorem Nj (sum:jn) (s:List UInt8) (hs:s.length<=9223372036854775807):call 87 [vk .u32 ((sum.toNat:Nat):Int),vs s] []=some (vk .u32 (((cr sum s).toNat:Nat):Int),[]):=by
 apply ae WJ rfl;have e16:tabW.length=16:=uN;(simp(disch:=first|decide|omega|(intros;exact aP rfl rfl)|simp only[am]) only[VU,↓kD,Dj,e16,List.append_nil,go_sem,seval,aO])
 refine ka (σ:=Nat) (fun k=>s.length-k) (fun k=>k<=s.length) (fun k=>[vs s,.one (.p 0 0),vk .u32 ((((s.take k).foldl qC (~~~sum)).toNat:Nat):Int),vi s.length,vi k]) (fun _=>[.cells tabW]) (fun _=>(vk .u32 (((cr sum s).toNat:Nat):Int),([]:Hp))) ?_ 0 (zP _) _ _ (at_head2 (by decide) (by simp only[List.map_cons,List.map_nil,go_sem,seval];exact rfl) (by simp[aI,aD,ax,aE,aw,V.ren,L.ren,Box.ren,V.refs,L.refs,Box.refs,om,pZ]) (by simp[aI,aD,ax,aE,aw,V.ren,L.ren,Box.ren,V.refs,L.refs,Box.refs,om,pZ]))
 intro k hk R hR;rcases Nat.lt_or_ge k s.length with h|h
 ·have e1:(s.take (k+1)).foldl qC (~~~sum)=qC ((s.take k).foldl qC (~~~sum)) s[k]:=by rw[gd s k h,List.foldl_append];rfl
  rw[Mn] at e1;generalize (s.take k).foldl qC (~~~sum)=x at *;have l1:=z7 (x ^^^ BitVec.ofNat 32 s[k].toNat);have l2:=z7 (((x ^^^ BitVec.ofNat 32 s[k].toNat) >>> 4) ^^^ fY 4 ((x ^^^ BitVec.ofNat 32 s[k].toNat) &&& 15#32));(simp(disch:=first|decide|omega|(intros;exact aP rfl rfl)|simp only[am]) only[JA,↓kD,nT s k h,vY,MN,go_sem,seval,aO])
  exact hR (k+1) (by omega) (by omega) _ _ (at_head2 (by decide) (by simp only[List.map_cons,List.map_nil,go_sem,seval];exact rfl) (by simp[aI,aD,ax,aE,aw,V.ren,L.ren,Box.ren,V.refs,L.refs,Box.refs,om,pZ,e1]) (by simp[aI,aD,ax,aE,aw,V.ren,L.ren,Box.ren,V.refs,L.refs,Box.refs,om,pZ,e1]))
 ·(simp(disch:=first|decide|omega|(intros;exact aP rfl rfl)|simp only[am]) only[JA,↓kD,go_sem,seval,aO])
  rw[zL h];rfl
def uu (l:List (List UInt8)):jn:=l.foldl cr 0#32
def Lv (s:List UInt8):List D:=[.s s]
theorem I6 (s:List UInt8):(Lv s).length=1:=Eq.trans rfl rfl
theorem MR (s:List UInt8):(Lv s)[0]?=some (.s s):=Eq.trans rfl rfl
theorem Bk (l:List (List UInt8)) (hl:l.length<=9223372036854775807) (hs:∀ s∈l,s.length<=9223372036854775807):call 64 [vl (l.map Lv)] []=some (vk .u32 (((uu l).toNat:Nat):Int),[]):=by
 apply ae Ws rfl;refine bd ?_ VW.eq_1;refine io (σ:=Nat) (fun k=>l.length-k) (fun k=>k<=l.length) (fun k=>[vk .u32 ((((l.take k).foldl cr 0#32).toNat:Nat):Int),vl (l.map Lv),vi l.length,vi k]) (fun _=>(vk .u32 (((uu l).toNat:Nat):Int),[])) (fun _=>by simp only[go_sem,seval]) ?_ 0 (zP _) _ (by simp[go_sem,seval])
 intro k hk R hR;rcases Nat.lt_or_ge k l.length with h|h
 ·have e1:(l.take (k+1)).foldl cr 0#32=cr ((l.take k).foldl cr 0#32) l[k]:=by rw[gd l k h,List.foldl_append];rfl
  have ho:=Nj ((l.take k).foldl cr 0#32) l[k] (hs _ (zN h));refine bd ?_ Jl.eq_1 @I6 @MR ho;exact hR (k+1) (by omega) (by omega) _ (by simp[e1,go_sem,seval])
 ·refine bd ?_ Jl.eq_1;rw[zL h];rfl
theorem zf (x:jn) (a b:List UInt8):cr x (a++b)=cr (cr x a) b:=by
 simp only[cr,List.foldl_append,BitVec.not_not]
theorem Ln (a b:List UInt8):uu [a,b]=cr 0#32 (a++b):=by simp only[uu,List.foldl_cons,List.foldl_nil,zf]
theorem DJ (n:Nat) (hn:n<18446744073709551616):call 160 [vk .u64 ((n:Nat):Int)] []=some (vi (blen n),[]):=by
 apply ae UA rfl;have last:∀ m:Nat,m<256->IntKind.u8.wrap ((m:Nat):Int)=((m:Nat):Int):=fun m h=>tH (by omega)
 have tab:∀ m:Nat,m<256->IntKind.i64.wrap (((UInt8.ofNat (blen m)).toNat:Nat):Int)=((blen m:Nat):Int):=fun m h=>by
  rw[Di h];have:=(gW m 8).2 h;exact ir (by omega)
 have b8:∀ m:Nat,m<256->blen m<=8:=fun m h=>(gW m 8).2 h
 by_cases c0:4294967296<=n
 ·have e0:=gw (n) 32 c0;simp only[Nat.reducePow] at e0;by_cases c1:65536<=n / 4294967296
  ·have e1:=gw (n / 4294967296) 16 c1;simp only[Nat.reducePow] at e1;by_cases c2:256<=n / 4294967296 / 65536
   ·have e2:=gw (n / 4294967296 / 65536) 8 c2;simp only[Nat.reducePow] at e2;have hm:n / 4294967296 / 65536 / 256<256:=by omega
    have:=b8 _ hm;have e:((blen n:Nat):Int)=32+16+8+((blen (n / 4294967296 / 65536 / 256):Nat):Int):=by omega
    rw[e];(simp(disch:=first|decide|omega|(intros;exact aP rfl rfl)|simp only[am]) only[xM,↓iQ,↓i6,↓kK,last _ hm,jb _ hm,tab _ hm,Int.zero_add,go_sem,seval,aO])
   ·skip
    have hm:n / 4294967296 / 65536<256:=by omega
    have:=b8 _ hm;have e:((blen n:Nat):Int)=32+16+((blen (n / 4294967296 / 65536):Nat):Int):=by omega
    rw[e];(simp(disch:=first|decide|omega|(intros;exact aP rfl rfl)|simp only[am]) only[xM,↓iQ,↓i6,↓kK,last _ hm,jb _ hm,tab _ hm,Int.zero_add,go_sem,seval,aO])
  ·skip
   by_cases c2:256<=n / 4294967296
   ·have e2:=gw (n / 4294967296) 8 c2;simp only[Nat.reducePow] at e2;have hm:n / 4294967296 / 256<256:=by omega
    have:=b8 _ hm;have e:((blen n:Nat):Int)=32+8+((blen (n / 4294967296 / 256):Nat):Int):=by omega
    rw[e];(simp(disch:=first|decide|omega|(intros;exact aP rfl rfl)|simp only[am]) only[xM,↓iQ,↓i6,↓kK,last _ hm,jb _ hm,tab _ hm,Int.zero_add,go_sem,seval,aO])
   ·skip
    have hm:n / 4294967296<256:=by omega
    have:=b8 _ hm;have e:((blen n:Nat):Int)=32+((blen (n / 4294967296):Nat):Int):=by omega
    rw[e];(simp(disch:=first|decide|omega|(intros;exact aP rfl rfl)|simp only[am]) only[xM,↓iQ,↓i6,↓kK,last _ hm,jb _ hm,tab _ hm,Int.zero_add,go_sem,seval,aO])
 ·skip
  by_cases c1:65536<=n
  ·have e1:=gw (n) 16 c1;simp only[Nat.reducePow] at e1;by_cases c2:256<=n / 65536
   ·have e2:=gw (n / 65536) 8 c2;simp only[Nat.reducePow] at e2;have hm:n / 65536 / 256<256:=by omega
    have:=b8 _ hm;have e:((blen n:Nat):Int)=16+8+((blen (n / 65536 / 256):Nat):Int):=by omega
    rw[e];(simp(disch:=first|decide|omega|(intros;exact aP rfl rfl)|simp only[am]) only[xM,↓iQ,↓i6,↓kK,last _ hm,jb _ hm,tab _ hm,Int.zero_add,go_sem,seval,aO])
   ·skip
    have hm:n / 65536<256:=by omega
    have:=b8 _ hm;have e:((blen n:Nat):Int)=16+((blen (n / 65536):Nat):Int):=by omega
    rw[e];(simp(disch:=first|decide|omega|(intros;exact aP rfl rfl)|simp only[am]) only[xM,↓iQ,↓i6,↓kK,last _ hm,jb _ hm,tab _ hm,Int.zero_add,go_sem,seval,aO])
  ·skip
   by_cases c2:256<=n
   ·have e2:=gw (n) 8 c2;simp only[Nat.reducePow] at e2;have hm:n / 256<256:=by omega
    have:=b8 _ hm;have e:((blen n:Nat):Int)=8+((blen (n / 256):Nat):Int):=by omega
    rw[e];(simp(disch:=first|decide|omega|(intros;exact aP rfl rfl)|simp only[am]) only[xM,↓iQ,↓i6,↓kK,last _ hm,jb _ hm,tab _ hm,Int.zero_add,go_sem,seval,aO])
   ·skip
    have hm:n<256:=by omega
    have:=b8 _ hm;have e:((blen n:Nat):Int)=((blen (n):Nat):Int):=by omega
    rw[e];(simp(disch:=first|decide|omega|(intros;exact aP rfl rfl)|simp only[am]) only[xM,↓iQ,↓i6,↓kK,last _ hm,jb _ hm,tab _ hm,Int.zero_add,go_sem,seval,aO])
theorem uC (n:Nat) (hn:n<9223372036854775808):call 131 [vi n] []=some (vi (nd n),[]):=by
 apply ae T6 rfl;have h64:=DJ n (by omega)
 have hb:blen n<=63:=(gW n 63).2 (by omega)
 have hq:(((blen n:Nat):Int)+6).tdiv 7=(((blen n+6) / 7:Nat):Int):=by rw[Int.tdiv_eq_ediv_of_nonneg (by omega)];omega
 have hm:=MS n;by_cases c:1<(blen n+6) / 7
 ·have e:nd n=(blen n+6) / 7:=by omega
  rw[e];(simp(disch:=first|decide|omega|(intros;exact aP rfl rfl)|simp only[am]) only[Pb,h64,hq,go_sem,seval,aO])
 ·have e:nd n=1:=by omega
  have c':¬ (((blen n+6) / 7:Nat):Int) > 1:=by omega
  rw[e];(simp(disch:=first|decide|omega|(intros;exact aP rfl rfl)|simp only[am]) only[Pb,h64,hq,if_neg c',go_sem,seval,aO])
  try rfl
theorem qa (n:Nat) (hn:n<9223372036854775808):call 136 [vi n] []=some (vs (ah n),[]):=by
 apply ae Ui rfl;have hl:=uC n hn;have h9:=eC hn;obtain⟨m,hm⟩:∃ m,nd n=m+1:=⟨nd n-1,by have:=gt n;omega⟩
 have hlast:=GQ n m hm;have hlt:n / 128 ^ m<128:=by
  have:=((gh m n).1 hm).1;rw[Nat.div_lt_iff_lt_mul (Nat.pow_pos (by decide))]
  rwa [Nat.pow_succ,Nat.mul_comm] at this
 rw[hm] at hl h9;refine bd ?_ Q3.eq_1 hl @Int.mul_one;refine ka (σ:=Nat) (fun k=>m+1-k) (fun k=>k<=m+1) (fun k=>[vi n,.one (.sl 0 1 0 (m+1)),vi ((m+1:Nat):Int),vi k]) (fun k=>[.arr 1 (putR n (m+1) k) 0]) (fun _=>(vs (ah n),([]:Hp))) ?_ 0 (zP _) _ _ (at_head2 (by decide) (by simp only[List.map_cons,List.map_nil,go_sem,seval];exact rfl) (by simp[aI,aD,ax,aE,aw,V.ren,L.ren,Box.ren,V.refs,L.refs,Box.refs,xy]) (by simp[aI,aD,ax,aE,aw,V.ren,L.ren,Box.ren,V.refs,L.refs,Box.refs,xy]))
 intro k hk R hR;rcases Nat.lt_or_ge k (m+1) with h|h
 ·have hsh:dy .shr (.i .i64 ((n:Nat):Int)) (.i .u64 (7*((k:Nat):Int)))=some (.i .i64 ((n / 2 ^ (7*k):Nat):Int)):=tW .i64 .u64 n (7*k) (by show 7*k<=64;omega)
  have e2:(2:Nat) ^ (7*k)=128 ^ k:=by rw[Nat.pow_mul]
  have hg:=lH n (m+1) k k h;have hs:=JD n (m+1) k h;rw[e2] at hsh;(simp(disch:=first|decide|omega|(intros;exact aP rfl rfl)|simp only[am]) only[C0,↓hsh,jI,↓WH,hg,hs,go_sem,seval,aO])
  exact hR (k+1) (by omega) (by omega) _ _ (at_head2 (by decide) (by simp only[List.map_cons,List.map_nil,go_sem,seval];exact rfl) (by simp[aI,aD,ax,aE,aw,V.ren,L.ren,Box.ren,V.refs,L.refs,Box.refs,true_and]) (by simp[aI,aD,ax,aE,aw,V.ren,L.ren,Box.ren,V.refs,L.refs,Box.refs,true_and]))
 ·have hk':k=m+1:=by omega
  subst hk';have hg:=lH n (m+1) (m+1) m (by omega)
  have hd:AH n (m+1) m=128+n / 128 ^ m:=by unfold AH;rw[if_pos (by omega),Nat.mod_eq_of_lt hlt]
  rw[hd] at hg;generalize n / 128 ^ m=q at hlast hlt hg;have ha:=Rp (128+q) (by omega)
  have hmod:(128+q) % 128=q:=by omega
  rw[hmod] at ha;have hpl:=lJ n (m+1) (m+1);have hw:IntKind.i64.wrap (((m+1:Nat):Int)-1)=((m:Nat):Int):=by rw[ir (by omega)];omega
  have hel:(ah n).length=m+1:=hm;have htk:(ay (ah n)).take (m+1)=ay (ah n):=zL (by rw[dP,hel];exact Nat.le_refl _)
  (simp(disch:=first|decide|omega|(intros;exact aP rfl rfl)|simp only[am]) only[C0,hw,hg,↓ha,hlast,hpl,dP,hel,htk,mn,go_sem,seval,aO])
theorem iX (n:Nat) (hn:n<9223372036854775808):call 66 [vi n] []=some (vs (ah n),[]):=by
 apply ae WN rfl;refine bd ?_ V0.eq_1;refine ka (σ:=Nat × List UInt8) (fun s=>s.1) (fun s=>s.1<9223372036854775808∧s.2++ah s.1=ah n∧s.2.length+nd s.1<=9) (fun s=>[vi s.1,vs s.2]) (fun _=>[]) (fun _=>(vs (ah n),([]:Hp))) ?_ (n,[]) ⟨hn,rfl,by simpa using eC hn⟩ _ _ (at_head2 (by decide) (by simp only[List.map_cons,List.map_nil,go_sem,seval];exact rfl) (by simp[aI,aD,ax,aE,aw,V.ren,L.ren,Box.ren,V.refs,L.refs,Box.refs,true_and]) (by simp[aI,aD,ax,aE,aw,V.ren,L.ren,Box.ren,V.refs,L.refs,Box.refs,true_and]))
 rintro⟨k,l⟩ ⟨hk,he,hl⟩ R hR;simp only at hk he hl;rcases Nat.lt_or_ge k 128 with h|h
 ·rw[jH h] at he;have hnd:=gt k;refine bd ?_ HU.eq_1 @jI @kX @gR @vo;rw[he]
 ·have hq:((k:Nat):Int).tdiv 128=((k / 128:Nat):Int):=by rw[Int.tdiv_eq_ediv_of_nonneg (by omega)];omega
  have hr:((k:Nat):Int).tmod 128=((k % 128:Nat):Int):=by rw[Int.tmod_eq_emod_of_nonneg (by omega)];omega
  rw[qB (by omega)] at he
  rw[oT (by omega)] at hl
  have hw:IntKind.u8.wrap (128+((k % 128:Nat):Int))=((128+k % 128:Nat):Int):=by rw[tH (by omega)];omega
  have hb:UInt8.ofNat (((128+k % 128:Nat):Int)).toNat=UInt8.ofNat (128+k % 128):=rfl;refine bd ?_ HU.eq_1 hq hr hw @kX @gR;exact hR (k / 128,l++[UInt8.ofNat (128+k % 128)]) (by simp only[];omega) ⟨by simp only[];omega,by simp only[];rw[List.append_assoc];exact he,by simp only[zA,List.length_cons,List.length_nil];omega⟩ _ _ (at_head2 (by decide) (by simp only[List.map_cons,List.map_nil,go_sem,seval];exact rfl) (by simp[aI,aD,ax,aE,aw,V.ren,L.ren,Box.ren,V.refs,L.refs,Box.refs,true_and]) (by simp[aI,aD,ax,aE,aw,V.ren,L.ren,Box.ren,V.refs,L.refs,Box.refs,true_and]))
def jD (a:Nat):Option (Nat × Nat)->V
 | some (n,k)=>.tup [(false,[.d (.i .i64 n)]),(false,[.d (.i .i64 ((a+k:Nat):Int))]),(false,[.d (.b true)])]
 | none=>.tup [(false,[.d (.i .i64 0)]),(false,[.d (.i .i64 0)]),(false,[.d (.b false)])]
theorem Of (c i:Nat) (hc:c<128) (hi:i<=8):dy .shl (.i .i64 ((c:Nat):Int)) (.i .u64 (7*((i:Nat):Int)))=some (.i .i64 ((c*2 ^ (7*i):Nat):Int))∧c*2 ^ (7*i)+2 ^ (7*i)<=9223372036854775808:=by
 have h2:2 ^ (7*i)<=2 ^ 56:=Nat.pow_le_pow_right (by decide) (by omega)
 have h3:(c+1)*2 ^ (7*i)<=128*2 ^ 56:=Nat.mul_le_mul (by omega) h2
 have h4:(128:Nat)*2 ^ 56=9223372036854775808:=by decide
 have h5:(c+1)*2 ^ (7*i)=c*2 ^ (7*i)+2 ^ (7*i):=by rw[Nat.add_mul,Nat.one_mul]
 refine⟨?_,by omega⟩
 have hp:0<2 ^ (7*i):=Nat.pow_pos (by decide)
 simp only[dy];rw[if_neg (by omega)]
 have e1:(7*((i:Nat):Int)).toNat=7*i:=by omega
 have e2:min (7*i) IntKind.i64.bits=7*i:=Nat.min_eq_left (by show 7*i<=64;omega)
 rw[e1,e2];have e3:((c:Nat):Int)*2 ^ (7*i)=((c*2 ^ (7*i):Nat):Int):=by simp
 rw[e3,ir (by omega)]
theorem yz (i n:Nat):kA [] i n=none:=rfl
theorem qL (c:UInt8) (r:List UInt8) (i n:Nat):kA (c::r) i n=if 9<=i then none else if 128<=c.toNat then kA r (i+1) (n+c.toNat % 128*128 ^ i) else if c.toNat=0∧0<i then none else some (n+c.toNat*128 ^ i,i+1):=rfl
theorem oe (s:List UInt8) (a:Nat) (ha:a<9223372036854775808) (hs:s.length<=9223372036854775807):call 155 [vs s,vi a] []=some (jD a (kA (s.drop a) 0 0),[]):=by
 apply ae UZ rfl;refine bd ?_ Sy.eq_1;refine io (σ:=Nat × Nat) (fun t=>9-t.1) (fun t=>t.1<=9∧t.2<128 ^ t.1) (fun t=>[vs s,vi a,vi t.2,vi t.1]) (fun t=>(jD a (kA (s.drop (a+t.1)) t.1 t.2),([]:Hp))) (fun _=>by simp only[go_sem,seval]) ?_ (0,0) ⟨by decide,by decide⟩ _ (by simp[go_sem,seval])
 rintro⟨i,n⟩ ⟨hi,hn⟩ R hR;simp only at hi hn;rcases Nat.lt_or_ge (a+i) s.length with h|h
 ·rcases Nat.lt_or_ge i 9 with h9|h9
  ·simp only[zD h,qL];rw[if_neg (by omega)]
   obtain⟨c,hc⟩:∃ c,c=s[a+i]:=⟨_,rfl⟩;rw[<- hc];have hg:s[a+i]?=some c:=by rw[hc];simp[h]
   have hc8:=c.toNat_lt;have hm:c.toNat % 128<128:=Nat.mod_lt _ (by decide)
   obtain⟨hsh,hbd⟩:=Of (c.toNat % 128) i hm (by omega)
   have hp:(2:Nat) ^ (7*i)=128 ^ i:=by rw[Nat.pow_mul]
   have hand:=Rp c.toNat (by omega)
   have hor:=UT n (c.toNat % 128) (7*i) (by rw[hp];exact hn) (by rw[hp] at hbd ⊢;omega)
   rw[hp] at hsh hor hbd;have hidx:(((a:Nat):Int)+((i:Nat):Int)).toNat=a+i:=by omega
   have hnat:((a+(i+1):Nat):Int)=(a:Int)+(i:Int)+1:=by omega
   have hnx:n+c.toNat % 128*128 ^ i<128 ^ (i+1):=by
    have:=Nat.mul_le_mul_right (128 ^ i) (by omega:c.toNat % 128+1<=128)
    rw[Nat.pow_succ,Nat.mul_comm (128 ^ i) 128];rw[Nat.add_mul,Nat.one_mul] at this;omega
   rcases Nat.lt_or_ge c.toNat 128 with h1|h1
   ·rw[if_neg (by omega)]
    have hmm:c.toNat % 128=c.toNat:=Nat.mod_eq_of_lt h1;rw[hmm] at hand hsh hor;by_cases h0:c.toNat=0
    ·by_cases hi0:0<i
     ·rw[if_pos ⟨h0,hi0⟩];(simp(disch:=first|decide|omega|(intros;exact aP rfl rfl)|simp only[am]) only[nl,hidx,hg,↓hand,↓hsh,↓hor,jD,go_sem,seval,aO])
     ·rw[if_neg (by omega)]
      (simp(disch:=first|decide|omega|(intros;exact aP rfl rfl)|simp only[am]) only[nl,hidx,hg,↓hand,↓hsh,↓hor,hnat,jD,go_sem,seval,aO])
    ·rw[if_neg (by omega)]
     (simp(disch:=first|decide|omega|(intros;exact aP rfl rfl)|simp only[am]) only[nl,hidx,hg,↓hand,↓hsh,↓hor,hnat,jD,go_sem,seval,aO])
   ·rw[if_pos h1];(simp(disch:=first|decide|omega|(intros;exact aP rfl rfl)|simp only[am]) only[nl,hidx,hg,↓hand,↓hsh,↓hor,go_sem,seval,aO])
    exact hR (i+1,n+c.toNat % 128*128 ^ i) (by simp only[];omega) ⟨by simp only[];omega,hnx⟩ _ (by simp[go_sem,seval])
  ·have e:kA (s.drop (a+i)) i n=none:=by
    rw[zD h,qL,if_pos h9]
   simp only[e];(simp(disch:=first|decide|omega|(intros;exact aP rfl rfl)|simp only[am]) only[nl,jD,go_sem,seval,aO])
 ·simp only[zC h,yz];rcases Nat.lt_or_ge i 9 with h9|h9
  ·(simp(disch:=first|decide|omega|(intros;exact aP rfl rfl)|simp only[am]) only[nl,jD,go_sem,seval,aO])
  ·(simp(disch:=first|decide|omega|(intros;exact aP rfl rfl)|simp only[am]) only[nl,jD,go_sem,seval,aO])
theorem fM (s:List UInt8) (a:Nat) (ha:a<9223372036854775808) (hs:s.length<=9223372036854775807):call 50 [vs s,vi a] []=some (jD a (kA (s.drop a) 0 0),[]):=by
 apply ae WM rfl;rcases Nat.lt_or_ge a s.length with hal|hal
 ·have e00:(s.take (a+0)).drop a=[]:=zC (by simp;omega)
  rw[show kA (s.drop a) 0 0=kA (s.drop (a+0)) 0 (val ((s.take (a+0)).drop a)) by rw[e00];rfl]
  refine bd ?_ U3.eq_1;refine ka (σ:=Nat) (fun i=>9-i) (fun i=>i<=9∧a+i<=s.length∧G5 ((s.take (a+i)).drop a)) (fun i=>[vs s,vi a,vi (val ((s.take (a+i)).drop a)),vi ((128 ^ min i 8:Nat):Int),vi i]) (fun _=>[])
   (fun i=>(jD a (kA (s.drop (a+i)) i (val ((s.take (a+i)).drop a))),([]:Hp))) ?_ 0 ⟨by decide,by omega,?_⟩ _ _ ?_
  ·rintro i ⟨hi,hai,hp⟩ R hR;obtain⟨p,hpe⟩:∃ p,p=(s.take (a+i)).drop a:=⟨_,rfl⟩;have hpl:=Ml s a i hai;rw[<- hpe] at hp hpl;simp only[<- hpe];have hvl:=Ig p;rw[hpl] at hvl;rcases Nat.lt_or_ge (a+i) s.length with h|h
   ·have hsn:=Iu s a i h;rw[<- hpe] at hsn;rcases Nat.lt_or_ge i 9 with h9|h9
    ·simp only[zD h,qL];rw[if_neg (by omega)]
     obtain⟨c,hc⟩:∃ c,c=s[a+i]:=⟨_,rfl⟩;rw[<- hc] at hsn ⊢;have hg:s[a+i]?=some c:=by rw[hc];simp[h]
     have hc8:=c.toNat_lt;have hm:c.toNat % 128<128:=Nat.mod_lt _ (by decide)
     obtain⟨_,hbd⟩:=Of (c.toNat % 128) i hm (by omega)
     have hpw:(2:Nat) ^ (7*i)=128 ^ i:=by rw[Nat.pow_mul]
     rw[hpw] at hbd;have hmin:min i 8=i:=by omega
     have hidx:(((a:Nat):Int)+((i:Nat):Int)).toNat=a+i:=by omega
     have hr:((c.toNat:Nat):Int).tmod 128=((c.toNat % 128:Nat):Int):=by rw[Int.tmod_eq_emod_of_nonneg (by omega)];omega
     have hmul:((c.toNat % 128:Nat):Int)*((128 ^ i:Nat):Int)=((c.toNat % 128*128 ^ i:Nat):Int):=(Int.natCast_mul _ _).symm;have hw1:IntKind.i64.wrap (((c.toNat % 128*128 ^ i:Nat):Int))=((c.toNat % 128*128 ^ i:Nat):Int):=ir (by omega)
     have hw2:IntKind.i64.wrap (((val p:Nat):Int)+((c.toNat % 128*128 ^ i:Nat):Int))=((val p+c.toNat % 128*128 ^ i:Nat):Int):=by rw[ir (by omega)];omega
     have hwc:IntKind.i64.wrap ((c.toNat:Nat):Int)=((c.toNat:Nat):Int):=ir (by omega)
     have hnat:((a+(i+1):Nat):Int)=(a:Int)+(i:Int)+1:=by omega
     have hto:((a:Int)+(i:Int)+1).toNat=a+i+1:=by omega
     rcases Nat.lt_or_ge c.toNat 128 with h1|h1
     ·rw[if_neg (by omega)]
      have hmm:c.toNat % 128=c.toNat:=Nat.mod_eq_of_lt h1;rw[hmm] at hw1 hw2 hmul hr hbd;have henc:=Aw p c hp h1;rw[hpl] at henc;have hput:=iX (val p+c.toNat*128 ^ i) (by omega)
      by_cases h0:c.toNat=0∧0<i
      ·rw[if_pos h0];have hne:(ah (val p+c.toNat*128 ^ i) == p++[c])=false:=by
        rw[beq_eq_false_iff_ne];exact fun e=>(henc.1 e) h0
       (simp(disch:=first|decide|omega|(intros;exact aP rfl rfl)|simp only[am]) only[sH,hidx,hg,hwc,hr,hmin,hmul,hw1,hw2,hput,hto,hsn,hne,jD,go_sem,seval,aO])
      ·rw[if_neg h0];have hne:(ah (val p+c.toNat*128 ^ i) == p++[c])=true:=by
        rw[beq_iff_eq];exact henc.2 h0
       (simp(disch:=first|decide|omega|(intros;exact aP rfl rfl)|simp only[am]) only[sH,hidx,hg,hwc,hr,hmin,hmul,hw1,hw2,hput,hto,hsn,hne,hnat,jD,go_sem,seval,aO])
     ·rw[if_pos h1];have hv:val (p++[c])=val p+c.toNat % 128*128 ^ i:=by rw[pN,hpl]
      have hb:G5 (p++[c]):=by
       intro x hx;rcases zX.1 hx with hx|hx
       ·exact hp x hx
       ·simp at hx;subst hx;exact h1
      have hR':=hR (i+1) (by omega)
      simp only[<- Nat.add_assoc,hsn,hv] at hR';rcases Nat.lt_or_ge i 8 with h8|h8
      ·have hmin2:min (i+1) 8=i+1:=by omega
       have hpb:128 ^ i*128<=128 ^ 8:=by rw[<- Nat.pow_succ];exact Nat.pow_le_pow_right (by decide) (by omega)
       have hpe8:(128:Nat) ^ 8=72057594037927936:=by decide
       have hw3:IntKind.i64.wrap (((128 ^ i:Nat):Int)*128)=((128 ^ (i+1):Nat):Int):=by
        rw[Nat.pow_succ,ir (by omega)];omega
       refine bd ?_ sH.eq_1 hidx hg hwc hr hmin hmul hw1 hw2 hw3;exact hR' ⟨by omega,by omega,hb⟩ _ _ (at_head2 (by decide) (by simp only[List.map_cons,List.map_nil,go_sem,seval];exact rfl) (by simp[aI,aD,ax,aE,aw,V.ren,L.ren,Box.ren,V.refs,L.refs,Box.refs,hmin2]) (by simp[aI,aD,ax,aE,aw,V.ren,L.ren,Box.ren,V.refs,L.refs,Box.refs,hmin2]))
      ·have hi8:i=8:=by omega
       have hmin2:min (i+1) 8=i:=by omega
       refine bd ?_ sH.eq_1 hidx hg hwc hr hmin hmul hw1 hw2;exact hR' ⟨by omega,by omega,hb⟩ _ _ (at_head2 (by decide) (by simp only[List.map_cons,List.map_nil,go_sem,seval];exact rfl) (by simp[aI,aD,ax,aE,aw,V.ren,L.ren,Box.ren,V.refs,L.refs,Box.refs,hmin2]) (by simp[aI,aD,ax,aE,aw,V.ren,L.ren,Box.ren,V.refs,L.refs,Box.refs,hmin2]))
    ·have e:kA (s.drop (a+i)) i (val p)=none:=by
      rw[zD h,qL,if_pos h9]
     simp only[e];(simp(disch:=first|decide|omega|(intros;exact aP rfl rfl)|simp only[am]) only[sH,jD,go_sem,seval,aO])
   ·simp only[zC h,yz];rcases Nat.lt_or_ge i 9 with h9|h9
    ·(simp(disch:=first|decide|omega|(intros;exact aP rfl rfl)|simp only[am]) only[sH,jD,go_sem,seval,aO])
    ·(simp(disch:=first|decide|omega|(intros;exact aP rfl rfl)|simp only[am]) only[sH,jD,go_sem,seval,aO])
  ·intro c hc;simp at hc
  ·have e0:(s.take (a+0)).drop a=[]:=zC (by simp;omega)
   have e0':(s.take a).drop a=[]:=zC (by simp;omega)
   exact(at_head2 (by decide) (by simp only[List.map_cons,List.map_nil,go_sem,seval];exact rfl) (by simp[aI,aD,ax,aE,aw,V.ren,L.ren,Box.ren,V.refs,L.refs,Box.refs,e0',val]) (by simp[aI,aD,ax,aE,aw,V.ren,L.ren,Box.ren,V.refs,L.refs,Box.refs,e0',val]))
 ·rw[zC hal,yz];(simp(disch:=first|decide|omega|(intros;exact aP rfl rfl)|simp only[am]) only[U3,jD,go_sem,seval,aO])
theorem rj (n:Int):call 159 [vi n] []=some (vb (decide (1<=n) && decide (n<=65536)),[]):=by
 apply ae Uy rfl;by_cases c:1<=n
 ·(refine bd ?_ P5.eq_1 c;try exact True.intro)
 ·(refine bd ?_ P5.eq_1 c @Bool.false_and;try exact True.intro)
theorem Gn (n:Int):call 130 [vi n] []=some (vi (B5 n),[]):=by
 apply ae Vm rfl;have hf:=rj n;by_cases c:1<=n∧n<=65536
 ·rw[zT c.1,zT c.2] at hf;obtain⟨k,rfl⟩:∃ k:Nat,n=k:=⟨n.toNat,by omega⟩
  have hl:=uC k (by omega)
  have h9:=eC (n:=k) (by omega)
  unfold B5;rw[if_pos c,Int.toNat_natCast]
  (refine bd ?_ PA.eq_1 hf hl;try exact True.intro)
 ·have hf':(decide (1<=n) && decide (n<=65536))=false:=by rw[Bool.and_eq_false_iff,decide_eq_false_iff_not,decide_eq_false_iff_not];omega
  rw[hf'] at hf;unfold B5;rw[if_neg c]
  (refine bd ?_ PA.eq_1 hf;try exact True.intro)
def AL (b:List UInt8):V:=if 1<=b.length∧b.length<=65536 then .tup [(false,[zS (aJ b)]),(false,[zI 0])] else .tup [(false,[.d (.s [])]),(false,[zI 5])]
theorem xe (a b:List UInt8) (ha:a.length<=9223372036854775807) (hb:b.length<=9223372036854775807):call 64 [vl [[.s a],[.s b]]] []=some (vk .u32 (((cr 0#32 (a++b)).toNat:Nat):Int),[]):=by
 have:=Bk [a,b] (by simp) (by intro s hs;simp at hs;rcases hs with rfl|rfl <;> assumption)
 rw[Ln] at this;exact this
theorem oG (b:List UInt8) (hb:b.length<=9223372036854775807):call 135 [vs b] []=some (AL b,[]):=by
 apply ae Tr rfl;have hf:=rj b.length;unfold AL;by_cases c:1<=b.length∧b.length<=65536
 ·have e1:decide (1<=(b.length:Int))=true:=by simp;omega
  have e2:decide ((b.length:Int)<=65536)=true:=by simp;omega
  rw[e1,e2] at hf;have hp:=qa b.length (by omega)
  have hel:(ah b.length).length<=9:=eC (n:=b.length) (by omega)
  have hs:=xe (ah b.length) b (by omega) hb
  have h4:=rR (cr 0#32 (ah b.length++b));have l4:=d9 (cr 0#32 (ah b.length++b));rw[if_pos c]
  (refine bd ?_ PF.eq_1 hf hp hs h4 l4 @aJ.eq_1;try exact True.intro)
 ·have hf':(decide (1<=(b.length:Int)) && decide ((b.length:Int)<=65536))=false:=by rw[Bool.and_eq_false_iff,decide_eq_false_iff_not,decide_eq_false_iff_not];omega
  rw[hf'] at hf;rw[if_neg c]
  (refine bd ?_ PF.eq_1 hf;try exact True.intro)
theorem lZ (b:List UInt8) (hb:b.length<=9223372036854775807):call 74 [vs b] []=some (AL b,[]):=by
 apply ae WL rfl;unfold AL;by_cases c:1<=b.length
 ·by_cases c2:b.length<=65536
  ·have hp:=iX b.length (by omega)
   have hel:(ah b.length).length<=9:=eC (n:=b.length) (by omega)
   have hs:=pf (ah b.length++b) (by simp;omega)
   have h4:=pG (cr 0#32 (ah b.length++b));have l4:=d9 (cr 0#32 (ah b.length++b));rw[if_pos ⟨c,c2⟩]
   (refine bd ?_ Te.eq_1 hp hs h4 l4 @aJ.eq_1;try exact True.intro)
  ·rw[if_neg (by omega)]
   (refine bd ?_ Te.eq_1;try exact True.intro)
 ·rw[if_neg (by omega)]
  (refine bd ?_ Te.eq_1;try exact True.intro)
theorem Gs (l:List UInt8) (hl:l.length<=9223372036854775807):call 194 [vs l] []=some (vb (jW l),[]):=by
 apply ae Uv rfl;by_cases c:l.length<=8
 ·have e:jW l=(l.drop 0).all fun c=>decide (128<=c.toNat):=by simp[jW,c]
  rw[e];refine bd ?_ OX.eq_1;refine io (σ:=Nat) (fun k=>l.length-k) (fun k=>k<=l.length) (fun k=>[vs l,vi l.length,vi k]) (fun k=>(vb ((l.drop k).all fun c=>decide (128<=c.toNat)),([]:Hp))) (fun _=>by simp only[go_sem,seval]) ?_ 0 (zP _) _ (by simp[go_sem,seval])
  intro k hk R hR;rcases Nat.lt_or_ge k l.length with h|h
  ·simp only[zD h,List.all_cons];by_cases c1:128<=l[k].toNat
   ·rw[zT c1,Bool.true_and];refine bd ?_ y0.eq_1 (nT l k h);exact hR (k+1) (by first|omega|(simp only[];omega)) (by first|omega|(simp only[];omega)) _ (by simp[go_sem,seval])
   ·rw[zF c1,Bool.false_and]
    (refine bd ?_ y0.eq_1 (nT l k h);try exact True.intro)
  ·(simp(disch:=first|decide|omega|(intros;exact aP rfl rfl)|simp only[am]) only[y0,zC h,List.all_nil,go_sem,seval,aO])
 ·have e:jW l=false:=by simp[jW,c]
  rw[e]
  (refine bd ?_ OX.eq_1;try exact True.intro)
theorem Hg (s:List UInt8) (a:Nat) (ha:a<=s.length) (hs:s.length<=9223372036854775807):call 73 [vs s,vi a] []=some (vb (jW (s.drop a)),[]):=by
 apply ae Wu rfl;have e:jW (s.drop a)=(((s.drop (a+0)).all fun c=>decide (128<=c.toNat)) && decide (s.length-a<=8)):=by simp[jW,Bool.and_comm]
 rw[e];refine bd ?_ Vz.eq_1;refine io (σ:=Nat) (fun k=>s.length-k) (fun k=>k<=s.length) (fun k=>[vs s,vi a,vi k]) (fun k=>(vb (((s.drop k).all fun c=>decide (128<=c.toNat)) && decide (s.length-a<=8)),([]:Hp))) (fun _=>by simp only[go_sem,seval]) ?_ a ha _ (by simp[go_sem,seval])
 intro k hk R hR;rcases Nat.lt_or_ge k s.length with h|h
 ·simp only[zD h,List.all_cons];by_cases c1:128<=s[k].toNat
  ·rw[zT c1,Bool.true_and];refine bd ?_ AS.eq_1 (nT s k h);exact hR (k+1) (by first|omega|(simp only[];omega)) (by first|omega|(simp only[];omega)) _ (by simp[go_sem,seval])
  ·rw[zF c1,Bool.false_and,Bool.false_and]
   (refine bd ?_ AS.eq_1 (nT s k h);try exact True.intro)
 ·rw[zC h,List.all_nil,Bool.true_and];by_cases c:s.length-a<=8
  ·rw[zT c]
   (refine bd ?_ AS.eq_1;try exact True.intro)
  ·rw[zF c]
   (refine bd ?_ AS.eq_1;try exact True.intro)
def dJ (r:List UInt8 × Nat × Int):V:=.tup [(false,[zS r.1]),(false,[zI ((r.2.1:Nat):Int)]),(false,[zI r.2.2])]
theorem JG (n:Nat):call 159 [vi n] []=some (vb (jZ n),[]):=by
 have:=rj n;have e:(decide (1<=(n:Int)) && decide ((n:Int)<=65536))=jZ n:=by
  unfold jZ;congr 1 <;> (rw[decide_eq_decide];omega)
 rwa [e] at this
theorem Hi (s:List UInt8) (a:Nat) (ha:a<9223372036854775808) (hs:s.length<=4611686018427387904):call 188 [vs s,vi a] []=some (dJ (dV s a),[]):=by
 apply ae Ux rfl;unfold dV;rcases Nat.lt_or_ge a s.length with hal|hal
 ·have ho:=Gs (s.drop a) (by simp;omega)
  cases hop:jW (s.drop a) with
  | true =>
   rw[hop] at ho;rw[if_pos (.inr rfl)];(simp(disch:=first|decide|omega|(intros;exact aP rfl rfl)|simp only[am]) only[Ai,ho,dJ,go_sem,seval,aO])
   try rfl
  | false =>
   rw[hop] at ho;rw[if_neg (by simp;omega)]
   have hrd:=oe s a ha (by omega)
   cases hr:kA (s.drop a) 0 0 with
   | none =>
    rw[hr] at hrd;(simp(disch:=first|decide|omega|(intros;exact aP rfl rfl)|simp only[am]) only[Ai,ho,hrd,jD,dJ,go_sem,seval,aO])
    try rfl
   | some q =>
    obtain⟨n,k⟩:=q;rw[hr] at hrd;obtain⟨te,t1,t2,t3⟩:=lu hr;have hft:=JG n;dsimp only
    by_cases hfn:jZ n=false
    ·rw[hfn] at hft;rw[if_pos hfn];(simp(disch:=first|decide|omega|(intros;exact aP rfl rfl)|simp only[am]) only[Ai,ho,hrd,jD,hft,dJ,go_sem,seval,aO])
     try rfl
    ·have hfn:jZ n=true:=by simpa using hfn
     rw[hfn] at hft;have hn:1<=n∧n<=65536:=by simpa[jZ] using hfn
     have e1:((a+k:Nat):Int)+4=((a+k+4:Nat):Int):=rfl;have e3:((a+k+4:Nat):Int)+((n:Nat):Int)=((a+k+4+n:Nat):Int):=rfl;have e4:IntKind.i64.wrap (((a+k+4:Nat):Int)-4)=((a+k:Nat):Int):=by rw[ir (by omega)];omega
     rw[if_neg (by rw[hfn];decide)]
     by_cases hsh:s.length<a+k+4+n
     ·rw[if_pos hsh];(simp(disch:=first|decide|omega|(intros;exact aP rfl rfl)|simp only[am]) only[Ai,ho,hrd,jD,hft,dJ,e1,go_sem,seval,aO])
      try rfl
     ·rw[if_neg hsh];have hcs:=xe (ah n) ((s.take (a+k+4+n)).drop (a+k+4)) (by have:(ah n).length<=9:=eC (n:=n) (by omega);omega) (by simp;omega)
      have h4:=rR (cr 0#32 (ah n++(s.take (a+k+4+n)).drop (a+k+4)));by_cases hq:dN (cr 0#32 (ah n++(s.take (a+k+4+n)).drop (a+k+4)))=(s.take (a+k+4)).drop (a+k)
      ·have hb:(dN (cr 0#32 (ah n++(s.take (a+k+4+n)).drop (a+k+4))) == (s.take (a+k+4)).drop (a+k))=true:=by rw[beq_iff_eq];exact hq
       rw[if_pos hq];(simp(disch:=first|decide|omega|(intros;exact aP rfl rfl)|simp only[am]) only[Ai,ho,hrd,jD,hft,dJ,e1,e3,e4,te,hcs,h4,hb,go_sem,seval,aO])
      ·have hb:(dN (cr 0#32 (ah n++(s.take (a+k+4+n)).drop (a+k+4))) == (s.take (a+k+4)).drop (a+k))=false:=by rw[beq_eq_false_iff_ne];exact hq
       rw[if_neg hq];(simp(disch:=first|decide|omega|(intros;exact aP rfl rfl)|simp only[am]) only[Ai,ho,hrd,jD,hft,dJ,e1,e3,e4,te,hcs,h4,hb,go_sem,seval,aO])
       try rfl
 ·rw[if_pos (.inl hal)];(simp(disch:=first|decide|omega|(intros;exact aP rfl rfl)|simp only[am]) only[Ai,dJ,go_sem,seval,aO])
  try rfl
theorem qb (s:List UInt8) (a:Nat) (ha:a<9223372036854775808) (hs:s.length<=4611686018427387904):call 49 [vs s,vi a] []=some (dJ (dV s a),[]):=by
 apply ae W6 rfl;unfold dV;rcases Nat.lt_or_ge a s.length with hal|hal
 ·have ho:=Hg s a (by omega) (by omega)
  cases hop:jW (s.drop a) with
  | true =>
   rw[hop] at ho;rw[if_pos (.inr rfl)];(simp(disch:=first|decide|omega|(intros;exact aP rfl rfl)|simp only[am]) only[Mh,ho,dJ,go_sem,seval,aO])
   try rfl
  | false =>
   rw[hop] at ho;rw[if_neg (by simp;omega)]
   have hrd:=fM s a ha (by omega)
   cases hr:kA (s.drop a) 0 0 with
   | none =>
    rw[hr] at hrd;(simp(disch:=first|decide|omega|(intros;exact aP rfl rfl)|simp only[am]) only[Mh,ho,hrd,jD,dJ,go_sem,seval,aO])
    try rfl
   | some q =>
    obtain⟨n,k⟩:=q;rw[hr] at hrd;obtain⟨te,t1,t2,t3⟩:=lu hr;dsimp only
    by_cases hfn:jZ n=false
    ·rw[if_pos hfn];have hn':n<1∨65536<n:=by
      simp only[jZ,Bool.and_eq_false_iff,decide_eq_false_iff_not] at hfn;omega
     by_cases h0:n<1
     ·(simp(disch:=first|decide|omega|(intros;exact aP rfl rfl)|simp only[am]) only[Mh,ho,hrd,jD,dJ,go_sem,seval,aO])
      try rfl
     ·(simp(disch:=first|decide|omega|(intros;exact aP rfl rfl)|simp only[am]) only[Mh,ho,hrd,jD,dJ,go_sem,seval,aO])
      try rfl
    ·have hfn:jZ n=true:=by simpa using hfn
     have hn:1<=n∧n<=65536:=by simpa[jZ] using hfn
     have e1:((a+k:Nat):Int)+4=((a+k+4:Nat):Int):=rfl;have e3:((a+k+4:Nat):Int)+((n:Nat):Int)=((a+k+4+n:Nat):Int):=rfl;have e4:IntKind.i64.wrap (((a+k+4:Nat):Int)-4)=((a+k:Nat):Int):=by rw[ir (by omega)];omega
     rw[if_neg (by rw[hfn];decide)]
     by_cases hsh:s.length<a+k+4+n
     ·rw[if_pos hsh];(simp(disch:=first|decide|omega|(intros;exact aP rfl rfl)|simp only[am]) only[Mh,ho,hrd,jD,dJ,e1,go_sem,seval,aO])
      try rfl
     ·rw[if_neg hsh];have htl:((s.take (a+k+4+n)).drop (a+k+4)).length=n:=by simp;omega
      have hpf:=lZ ((s.take (a+k+4+n)).drop (a+k+4)) (by omega)
      unfold AL at hpf;rw[htl,if_pos hn] at hpf;have hsp:(s.take (a+k+4+n)).drop a=ah n++(s.take (a+k+4)).drop (a+k)++(s.take (a+k+4+n)).drop (a+k+4):=by
       rw[<- te];have s1:∀ (l:List UInt8) (i j m:Nat),i<=j->j<=m->(l.take m).drop i=(l.take j).drop i++(l.take m).drop j:=by
        intro l i j m hij hjm;have e:l.take m=l.take j++(l.take m).drop j:=by
         conv=>lhs;rw[<- zY j (l.take m),List.take_take,Nat.min_eq_left hjm]
        rcases Nat.lt_or_ge l.length j with hlj|hlj
        ·have:(l.take m).drop j=[]:=zC (by simp;omega)
         rw[this,List.append_nil,zL (by omega),zL (by omega)]
        ·conv=>lhs;rw[e]
         rw[List.drop_append_of_le_length (by simp;omega)]
       rw[s1 s a (a+k) (a+k+4+n) (by omega) (by omega),s1 s (a+k) (a+k+4) (a+k+4+n) (by omega) (by omega),List.append_assoc]
      have hto:((a+k+4+n:Nat):Int).toNat=a+k+4+n:=rfl;have e5:4+((n:Nat):Int)=((4+n:Nat):Int):=rfl;have hff:aJ ((s.take (a+k+4+n)).drop (a+k+4))=ah n++dN (cr 0#32 (ah n++(s.take (a+k+4+n)).drop (a+k+4)))++(s.take (a+k+4+n)).drop (a+k+4):=by
       unfold aJ;rw[htl]
      by_cases hq:dN (cr 0#32 (ah n++(s.take (a+k+4+n)).drop (a+k+4)))=(s.take (a+k+4)).drop (a+k)
      ·have hb:(aJ ((s.take (a+k+4+n)).drop (a+k+4)) == (s.take (a+k+4+n)).drop a)=true:=by rw[beq_iff_eq,hff,hsp,hq]
       rw[if_pos hq];(simp(disch:=first|decide|omega|(intros;exact aP rfl rfl)|simp only[am]) only[Mh,ho,hrd,jD,dJ,e1,e3,e5,hpf,hb,go_sem,seval,aO])
      ·have hb:(aJ ((s.take (a+k+4+n)).drop (a+k+4)) == (s.take (a+k+4+n)).drop a)=false:=by
        rw[beq_eq_false_iff_ne,hff,hsp];intro he;exact hq (List.append_cancel_left (List.append_cancel_right he))
       rw[if_neg hq];(simp(disch:=first|decide|omega|(intros;exact aP rfl rfl)|simp only[am]) only[Mh,ho,hrd,jD,dJ,e1,e3,e5,hpf,hb,go_sem,seval,aO])
       try rfl
 ·rw[if_pos (.inl hal)];(simp(disch:=first|decide|omega|(intros;exact aP rfl rfl)|simp only[am]) only[Mh,dJ,go_sem,seval,aO])
  try rfl
structure Rec where
 at_:Int
 ti:Int
 da:List UInt8
 deriving DecidableEq
def Rec.enc (e:Rec):List D:=[.i .i64 e.at_,.i .i64 e.ti,.s e.da]
theorem Rec.len (e:Rec):e.enc.length=3:=Eq.trans rfl rfl
theorem Rec.tk (e:Rec):e.enc.take 3=e.enc:=Eq.trans rfl rfl
theorem Rec.tkL (e:Rec):(e.enc.map L.d).take 3=e.enc.map L.d:=Eq.trans rfl rfl
theorem Rec.dat (e:Rec):dK (e.enc.map L.d)=some (e.enc.map L.d):=Eq.trans rfl rfl
theorem Rec.rfs (e:Rec):(e.enc.map L.d).flatMap L.refs=[]:=Eq.trans rfl rfl
theorem Rec.rn (e:Rec) (g:Nat->Option Nat):(e.enc.map L.d).map (L.ren g)=e.enc.map L.d:=Eq.trans rfl rfl
theorem Rec.lenL (e:Rec):(e.enc.map L.d).length=3:=Eq.trans rfl rfl
theorem Rec.at0 (e:Rec):e.enc[0]?=some (.i .i64 e.at_):=Eq.trans rfl rfl
theorem Rec.fd0 (e:Rec):(e.enc.map L.d)[0]?=some (zI e.at_):=Eq.trans rfl rfl
theorem Rec.at1 (e:Rec):(e.enc.drop 1)[0]?=some (.i .i64 e.ti):=Eq.trans rfl rfl
theorem Rec.fd1 (e:Rec):(e.enc.map L.d)[1]?=some (zI e.ti):=Eq.trans rfl rfl
theorem Rec.at2 (e:Rec):(e.enc.drop 2)[0]?=some (.s e.da):=Eq.trans rfl rfl
theorem Rec.fd2 (e:Rec):(e.enc.map L.d)[2]?=some (zS e.da):=Eq.trans rfl rfl
def Rec.ok (e:Rec):Prop:=(-9223372036854775808<=e.at_∧e.at_<9223372036854775808)∧(-9223372036854775808<=e.ti∧e.ti<9223372036854775808)∧e.da.length<=9223372036854775807
def Rec.ty:List Ty:=[.i .i64,.i .i64,.s]
theorem Rec.of (r:List D) (h:du Rec.ty r):∃ e:Rec,r=e.enc∧e.ok:=by
 simp only[Rec.ty,du,KT] at h;obtain⟨_,_,rfl,⟨x0,rfl,h0,g0⟩,⟨_,_,rfl,⟨x1,rfl,h1,g1⟩,⟨_,_,rfl,⟨x2,rfl,h2⟩,rfl⟩⟩⟩:=h;refine⟨⟨x0,x1,x2⟩,rfl,?_⟩;exact⟨⟨Int.le_trans (by decide) h0,zK g0 (by decide)⟩,⟨Int.le_trans (by decide) h1,zK g1 (by decide)⟩,h2⟩
def ef (n:Int):Bool:=decide (0<=n) && decide (n<=1099511627776)
def whyF (r:Rec):Int:=if ef r.at_=true∧ef r.ti=true then(if r.da.length<=64 then 0 else 5) else 6
theorem Jw {n:Int} (h:ef n=true):0<=n∧n<=1099511627776:=by simpa[ef] using h
theorem AQ (n:Int) (hn : -9223372036854775808<=n∧n<9223372036854775808):call 133 [vi n] []=some (vb (!ef n),[]):=by
 apply ae Va rfl;by_cases c:0<=n
 ·by_cases c2:n<=1099511627776
  ·have e:IntKind.u64.wrap n=n:=pV (by omega)
   have eo:ef n=true:=by simp[ef,c,c2]
   (refine bd ?_ NG.eq_1 e eo;try exact True.intro)
  ·have e:IntKind.u64.wrap n=n:=pV (by omega)
   have eo:ef n=false:=by simp[ef,c,c2]
   (refine bd ?_ NG.eq_1 e eo;try exact True.intro)
 ·have e:IntKind.u64.wrap n=n+18446744073709551616:=by
   show n % 18446744073709551616=_;omega
  have eo:ef n=false:=by simp[ef,c]
  (refine bd ?_ NG.eq_1 e eo;try exact True.intro)
theorem sG (n:Int):call 129 [vi n] []=some (vb (ef n),[]):=by
 apply ae UR rfl;by_cases c:0<=n
 ·(refine bd ?_ Qh.eq_1 @ef.eq_1 c;try exact True.intro)
 ·(refine bd ?_ Qh.eq_1 @ef.eq_1 c @Bool.false_and;try exact True.intro)
theorem pi (r:Rec) (hr:r.ok):call 96 [.agg (r.enc.map .d)] []=some (vi (whyF r),[]):=by
 apply ae Xe rfl;obtain⟨h1,h2,h3⟩:=hr;have f1:=AQ r.at_ h1;have f2:=AQ r.ti h2;unfold whyF;cases c1:ef r.at_ with
 | false =>
  rw[c1] at f1;refine bd ?_ RD.eq_1 @Rec.len @Rec.tk @Rec.fd0 @Rec.fd1 @Rec.fd2 @Rec.at0 @Rec.at1 @Rec.at2 f1 f2;try simp
 | true =>
  cases c2:ef r.ti with
  | false =>
   rw[c1] at f1;rw[c2] at f2;refine bd ?_ RD.eq_1 @Rec.len @Rec.tk @Rec.fd0 @Rec.fd1 @Rec.fd2 @Rec.at0 @Rec.at1 @Rec.at2 f1 f2;try simp
  | true =>
   rw[c1] at f1;rw[c2] at f2;by_cases c3:r.da.length<=64
   ·refine bd ?_ RD.eq_1 @Rec.len @Rec.tk @Rec.fd0 @Rec.fd1 @Rec.fd2 @Rec.at0 @Rec.at1 @Rec.at2 f1 f2;try simp[c3]
   ·refine bd ?_ RD.eq_1 @Rec.len @Rec.tk @Rec.fd0 @Rec.fd1 @Rec.fd2 @Rec.at0 @Rec.at1 @Rec.at2 f1 f2;try simp[c3]
theorem Jv (r:Rec) (hr:r.ok):call 89 [.agg (r.enc.map .d)] []=some (vi (whyF r),[]):=by
 apply ae Wz rfl;obtain⟨h1,h2,h3⟩:=hr;have f1:=sG r.at_;have f2:=sG r.ti;unfold whyF;cases c1:ef r.at_ with
 | false =>
  rw[c1] at f1;refine bd ?_ Ss.eq_1 @Rec.len @Rec.tk @Rec.fd0 @Rec.fd1 @Rec.fd2 @Rec.at0 @Rec.at1 @Rec.at2 f1 f2;try simp
 | true =>
  cases c2:ef r.ti with
  | false =>
   rw[c1] at f1;rw[c2] at f2;refine bd ?_ Ss.eq_1 @Rec.len @Rec.tk @Rec.fd0 @Rec.fd1 @Rec.fd2 @Rec.at0 @Rec.at1 @Rec.at2 f1 f2;try simp
  | true =>
   rw[c1] at f1;rw[c2] at f2;by_cases c3:r.da.length<=64
   ·refine bd ?_ Ss.eq_1 @Rec.len @Rec.tk @Rec.fd0 @Rec.fd1 @Rec.fd2 @Rec.at0 @Rec.at1 @Rec.at2 f1 f2;try simp[c3]
   ·refine bd ?_ Ss.eq_1 @Rec.len @Rec.tk @Rec.fd0 @Rec.fd1 @Rec.fd2 @Rec.at0 @Rec.at1 @Rec.at2 f1 f2;try simp[c3]
theorem uE (r:Rec) (hr:r.ok):call 79 [.agg (r.enc.map .d)] []=some (vb (decide (whyF r=0)),[]):=by
 apply ae Wh rfl;have h:=pi r hr;(simp(disch:=first|decide|omega|(intros;exact aP rfl rfl)|simp only[am]) only[VY,Rec.len,Rec.tkL,Rec.dat,Rec.lenL,h,go_sem,seval,aO])
 try rfl
def bI (r:Rec):List UInt8:=ah r.at_.toNat++ah r.ti.toNat++r.da
structure Fit (r:Rec):Prop where
 a0:0<=r.at_
 a1:r.at_<=1099511627776
 t0:0<=r.ti
 t1:r.ti<=1099511627776
 d:r.da.length<=64
theorem mD {r:Rec}:whyF r=0↔Fit r:=by
 unfold whyF;constructor
 ·intro h;split at h
  ·rename_i c;have c1:=Jw c.1;have c2:=Jw c.2;split at h
   ·exact⟨c1.1,c1.2,c2.1,c2.2,by assumption⟩
   ·cases h
  ·cases h
 ·intro h;have c1:ef r.at_=true:=by simp[ef,h.a0,h.a1]
  have c2:ef r.ti=true:=by simp[ef,h.t0,h.t1]
  rw[if_pos ⟨c1,c2⟩,if_pos h.d]
theorem Iq {n:Nat} (h:n<=1099511627776):nd n<=6:=by
 have hp:=gt n;rcases Nat.lt_or_ge 6 (nd n) with h6|h6
 ·have:=(gh (nd n-1) n).1 (by omega)
  rcases this.2 with h0|h0
  ·omega
  ·have:(128:Nat) ^ 6<=128 ^ (nd n-1):=Nat.pow_le_pow_right (by decide) (by omega)
   have e:(128:Nat) ^ 6=4398046511104:=by decide
   omega
 ·exact h6
theorem A4 (r:Rec):(bI r).length=nd r.at_.toNat+nd r.ti.toNat+r.da.length:=by simp[bI,nd,Nat.add_assoc]
theorem Fit.blen {r:Rec} (h:Fit r):2<=(bI r).length∧(bI r).length<=76:=by
 have h1:=Iq (n:=r.at_.toNat) (by have:=h.a0;have:=h.a1;omega)
 have h2:=Iq (n:=r.ti.toNat) (by have:=h.t0;have:=h.t1;omega)
 have h3:=gt r.at_.toNat;have h4:=gt r.ti.toNat;have:=h.d;rw[A4];omega
def putR (r:Rec):V:=if whyF r=0 then .tup [(false,[zS (aJ (bI r))]),(false,[zI 0])] else .tup [(false,[.d (.s [])]),(false,[zI (whyF r)])]
theorem Ft {n:Int} (h:0<=n) (h1:n<9223372036854775808):call 136 [vi n] []=some (vs (ah n.toNat),[]):=by
 have:=qa n.toNat (by omega)
 rwa [show((n.toNat:Nat):Int)=n by omega] at this
theorem tE {n:Int} (h:0<=n) (h1:n<9223372036854775808):call 66 [vi n] []=some (vs (ah n.toNat),[]):=by
 have:=iX n.toNat (by omega)
 rwa [show((n.toNat:Nat):Int)=n by omega] at this
theorem RF {n:Int} (h:0<=n) (h1:n<9223372036854775808):call 131 [vi n] []=some (vi (nd n.toNat),[]):=by
 have:=uC n.toNat (by omega)
 rwa [show((n.toNat:Nat):Int)=n by omega] at this
theorem BN (r:Rec) (hr:r.ok):call 99 [.agg (r.enc.map .d)] []=some (putR r,[]):=by
 apply ae Wv rfl;have h:=pi r hr;unfold putR;by_cases c:whyF r=0
 ·have hf:=mD.1 c;have hb:=hf.blen;have p:=oG (bI r) (by omega)
  unfold AL at p;rw[if_pos (by omega)] at p
  rw[c] at h;have p1:=Ft hf.a0 hr.1.2;have p2:=Ft hf.t0 hr.2.1.2;have l1:(ah r.at_.toNat).length<=9:=eC (n:=r.at_.toNat) (by have:=hr.1.2;omega)
  have l2:(ah r.ti.toNat).length<=9:=eC (n:=r.ti.toNat) (by have:=hr.2.1.2;omega)
  have l3:=hf.d;unfold bI at p;rw[if_pos c];(simp(disch:=first|decide|omega|(intros;exact aP rfl rfl)|simp only[am]) only[Uh,Rec.len,Rec.tkL,Rec.dat,Rec.lenL,Rec.fd0,Rec.fd1,Rec.fd2,Rec.at0,Rec.at1,Rec.at2,h,p1,p2,p,bI,go_sem,seval,aO])
 ·rw[if_neg c];(simp(disch:=first|decide|omega|(intros;exact aP rfl rfl)|simp only[am]) only[Uh,Rec.len,Rec.tkL,Rec.dat,Rec.lenL,Rec.fd0,Rec.fd1,Rec.fd2,Rec.at0,Rec.at1,Rec.at2,h,go_sem,seval,aO])
def mN (r:Rec):Nat:=if whyF r=0 then(aJ (bI r)).length else 0
theorem yL (r:Rec) (hr:r.ok):call 91 [.agg (r.enc.map .d)] []=some (vi (mN r),[]):=by
 apply ae WF rfl;have h:=uE r hr;unfold mN;by_cases c:whyF r=0
 ·have hf:=mD.1 c;have hb:=hf.blen;rw[zT c] at h;have p1:=RF hf.a0 hr.1.2;have p2:=RF hf.t0 hr.2.1.2;have l1:=eC (n:=r.at_.toNat) (by have:=hr.1.2;omega)
  have l2:=eC (n:=r.ti.toNat) (by have:=hr.2.1.2;omega)
  have l3:=hf.d;have hs:=Gn ((nd r.at_.toNat:Int)+(nd r.ti.toNat:Int)+(r.da.length:Int));have he:B5 ((nd r.at_.toNat:Int)+(nd r.ti.toNat:Int)+(r.da.length:Int))=(((aJ (bI r)).length:Nat):Int):=by
   rw[gu];have hl:=A4 r;unfold B5;rw[if_pos (by omega),show((nd r.at_.toNat:Int)+(nd r.ti.toNat:Int)+(r.da.length:Int)).toNat=(bI r).length by omega]
   omega
  rw[he] at hs;rw[if_pos c];(simp(disch:=first|decide|omega|(intros;exact aP rfl rfl)|simp only[am]) only[Vl,Rec.len,Rec.tkL,Rec.dat,Rec.lenL,Rec.fd0,Rec.fd1,Rec.fd2,Rec.at0,Rec.at1,Rec.at2,h,p1,p2,hs,go_sem,seval,aO])
 ·rw[if_neg c];rw[zF c] at h;(simp(disch:=first|decide|omega|(intros;exact aP rfl rfl)|simp only[am]) only[Vl,Rec.len,Rec.tkL,Rec.dat,Rec.lenL,Rec.fd0,Rec.fd1,Rec.fd2,Rec.at0,Rec.at1,Rec.at2,h,go_sem,seval,aO])
  try rfl
theorem xb (s:List UInt8) (a:Nat) (g:Bool) (ha:a<9223372036854775808) (hs:s.length<=9223372036854775807) :
  call 195 [.one (.p 0 0),.one (.p 1 0),.one (.p 2 0)] [.cells [zS s],.cells [zI a],.cells [zB g]] =
   some (match kA (s.drop a) 0 0 with|some (n,k)=>(vi n,[.cells [zS s],.cells [zI ((a+k:Nat):Int)],.cells [zB g]])|none=>(vi 0,[.cells [zS s],.cells [zI 0],.cells [zB false]])):=by
 apply ae UO rfl;have hr:=oe s a ha hs;cases h:kA (s.drop a) 0 0 with
 | none =>
  rw[h] at hr;cases g
  ·(simp(disch:=first|decide|omega|(intros;exact aP rfl rfl)|simp only[am]) only[Iv,hr,jD,go_sem,seval,aO])
   try rfl
  ·(simp(disch:=first|decide|omega|(intros;exact aP rfl rfl)|simp only[am]) only[Iv,hr,jD,go_sem,seval,aO])
   try rfl
 | some q =>
  obtain⟨n,k⟩:=q;rw[h] at hr;cases g
  ·(simp(disch:=first|decide|omega|(intros;exact aP rfl rfl)|simp only[am]) only[Iv,hr,jD,go_sem,seval,aO])
   try rfl
  ·(simp(disch:=first|decide|omega|(intros;exact aP rfl rfl)|simp only[am]) only[Iv,hr,jD,go_sem,seval,aO])
   try rfl
def ib (s:List UInt8):Rec × Int:=match kA s 0 0 with
 | none=>(⟨0,0,[]⟩,3)
 | some (n,k)=>match kA (s.drop k) 0 0 with
  | none=>(⟨0,0,[]⟩,3)
  | some (m,j)=>if whyF ⟨n,m,s.drop (k+j)⟩=0 then(⟨n,m,s.drop (k+j)⟩,0) else(⟨0,0,[]⟩,whyF ⟨n,m,s.drop (k+j)⟩)
def Fu (r:Rec × Int):V:=.tup [(true,r.1.enc.map .d),(false,[zI r.2])]
theorem mq {φ:cI} {f:FuncId} {args args':List V} {H H' H1 H2:Hp} {ids:List Nat} {r r':V} (hi:aI H (args.flatMap V.refs)=ids) (ha:args.map (V.ren (aG ids))=args') (hH:aw H ids=H')
  (hr:φ f args' H'=some (r,H1)) (he:(r.ren (fun j=>if j<ids.length then ids[j]? else some (H.length+(j-ids.length))),cu H ids ((H1.take ids.length).map (Box.ren (fun j=>if j<ids.length then ids[j]? else some (H.length+(j-ids.length)))))++(H1.drop ids.length).map (Box.ren (fun j=>if j<ids.length then ids[j]? else some (H.length+(j-ids.length)))))=(r',H2)) :
  ak φ f args H=some (r',H2):=by
 subst hi;subst ha;subst hH;simp only[ak,hr];rw[he]
theorem Aa {l:List UInt8} {n k:Nat} (h:kA l 0 0=some (n,k)):n<9223372036854775808:=by
 obtain⟨h1,h2,h3,h4⟩:=fA h;have e:nd n=k:=by unfold nd;rw[<- h4,zQ];omega
 obtain⟨m,hm⟩:∃ m,nd n=m+1:=⟨nd n-1,by have:=gt n;omega⟩
 have:=((gh m n).1 hm).1;have h9:(128:Nat) ^ (m+1)<=128 ^ 9:=Nat.pow_le_pow_right (by decide) (by omega)
 have e9:(128:Nat) ^ 9=9223372036854775808:=by decide
 omega
theorem JM (s:List UInt8) (hs:s.length<=1000000):call 189 [vs s] []=some (Fu (ib s),[]):=by
 apply ae Ur rfl;have g1:=xb s 0 true (by decide) (by omega)
 unfold ib Fu;cases h:kA s 0 0 with
 | none =>
  rw[List.drop_zero,h] at g1;have c1:ak call 195 [.one (.p 0 0),.one (.p 2 0),.one (.p 3 0)] [.cells [zS s],.cells [zI 0,zI 0,.d (.s [])],.cells [zI 0],.cells [zB true]]=some (vi 0,[.cells [zS s],.cells [zI 0,zI 0,.d (.s [])],.cells [zI 0],.cells [zB false]]) :=
   mq rfl rfl rfl g1 rfl
  (simp(disch:=first|decide|omega|(intros;exact aP rfl rfl)|simp only[am]) only[JP,c1,List.mapM_cons,List.mapM_nil,Option.pure_def,Option.bind_eq_bind,Option.bind_some,List.map_cons,List.map_nil,List.cons_append,List.nil_append,go_sem,seval,aO])
  try rfl
 | some q =>
  obtain⟨n,k⟩:=q;rw[List.drop_zero,h] at g1;obtain⟨b1,b2,b3,b4⟩:=fA h;have hn:=Aa h;simp only[Nat.zero_add] at g1;have c1:ak call 195 [.one (.p 0 0),.one (.p 2 0),.one (.p 3 0)] [.cells [zS s],.cells [zI 0,zI 0,.d (.s [])],.cells [zI 0],.cells [zB true]]=some (vi n,[.cells [zS s],.cells [zI 0,zI 0,.d (.s [])],.cells [zI k],.cells [zB true]]) :=
   mq rfl rfl rfl g1 rfl
  have g2:=xb s k true (by omega) (by omega)
  dsimp only
  cases h2:kA (s.drop k) 0 0 with
  | none =>
   rw[h2] at g2;have c2:ak call 195 [.one (.p 0 0),.one (.p 2 0),.one (.p 3 0)] [.cells [zS s],.cells [zI 0,zI 0,.d (.s [])],.cells [zI k],.cells [zB true],.cells [zI n,zI 0,.d (.s [])]]=some (vi 0,[.cells [zS s],.cells [zI 0,zI 0,.d (.s [])],.cells [zI 0],.cells [zB false],.cells [zI n,zI 0,.d (.s [])]]) :=
    mq rfl rfl rfl g2 rfl
   (simp(disch:=first|decide|omega|(intros;exact aP rfl rfl)|simp only[am]) only[JP,c1,c2,List.mapM_cons,List.mapM_nil,Option.pure_def,Option.bind_eq_bind,Option.bind_some,List.map_cons,List.map_nil,List.cons_append,List.nil_append,go_sem,seval,aO])
   try rfl
  | some q2 =>
   obtain⟨m,j⟩:=q2;rw[h2] at g2;obtain⟨d1,d2,d3,d4⟩:=fA h2;have hm:=Aa h2;have d2':k+j<=s.length:=by rw[zH] at d2;omega
   have c2:ak call 195 [.one (.p 0 0),.one (.p 2 0),.one (.p 3 0)] [.cells [zS s],.cells [zI 0,zI 0,.d (.s [])],.cells [zI k],.cells [zB true],.cells [zI n,zI 0,.d (.s [])]]=some (vi m,[.cells [zS s],.cells [zI 0,zI 0,.d (.s [])],.cells [zI ((k+j:Nat):Int)],.cells [zB true],.cells [zI n,zI 0,.d (.s [])]]) :=
    mq rfl rfl rfl g2 rfl
   have ck:call 96 [.agg [zI n,zI m,zS (s.drop (k+j))]] []=some (vi (whyF ⟨n,m,s.drop (k+j)⟩),[]):=pi ⟨n,m,s.drop (k+j)⟩ ⟨⟨by simp only[];omega,by simp only[];omega⟩,⟨by simp only[];omega,by simp only[];omega⟩,by simp;omega⟩
   dsimp only
   by_cases c:whyF ⟨n,m,s.drop (k+j)⟩=0
   ·rw[c] at ck;rw[if_pos c];(simp(disch:=first|decide|omega|(intros;exact aP rfl rfl)|simp only[am]) only[JP,c1,c2,ck,List.mapM_cons,List.mapM_nil,Option.pure_def,Option.bind_eq_bind,Option.bind_some,List.map_cons,List.map_nil,List.cons_append,List.nil_append,go_sem,seval,aO])
    try rfl
   ·rw[if_neg c];(simp(disch:=first|decide|omega|(intros;exact aP rfl rfl)|simp only[am]) only[JP,c1,c2,ck,c,List.mapM_cons,List.mapM_nil,Option.pure_def,Option.bind_eq_bind,Option.bind_some,List.map_cons,List.map_nil,List.cons_append,List.nil_append,go_sem,seval,aO])
    try rfl
theorem A1 (s:List UInt8) (hs:s.length<=1000000):call 95 [vs s] []=some (Fu (ib s),[]):=by
 apply ae V4 rfl;have g1:=fM s 0 (by decide) (by omega)
 simp only[List.drop_zero,Int.natCast_zero] at g1;unfold ib Fu;cases h:kA s 0 0 with
 | none =>
  rw[h] at g1;(simp(disch:=first|decide|omega|(intros;exact aP rfl rfl)|simp only[am]) only[SV,g1,jD,go_sem,seval,aO])
  try rfl
 | some q =>
  obtain⟨n,k⟩:=q;rw[h] at g1;simp only[jD,Nat.zero_add] at g1;obtain⟨b1,b2,b3,b4⟩:=fA h;have hn:=Aa h;have g2:=fM s k (by omega) (by omega)
  dsimp only
  cases h2:kA (s.drop k) 0 0 with
  | none =>
   rw[h2] at g2;simp only[jD] at g2;refine bd ?_ SV.eq_1 g1 g2;try rfl
  | some q2 =>
   obtain⟨m,j⟩:=q2;rw[h2] at g2;simp only[jD] at g2;obtain⟨d1,d2,d3,d4⟩:=fA h2;have hm:=Aa h2;have d2':k+j<=s.length:=by rw[zH] at d2;omega
   have ck:call 89 [.agg [zI n,zI m,zS (s.drop (k+j))]] []=some (vi (whyF ⟨n,m,s.drop (k+j)⟩),[]):=Jv ⟨n,m,s.drop (k+j)⟩ ⟨⟨by simp only[];omega,by simp only[];omega⟩,⟨by simp only[];omega,by simp only[];omega⟩,by simp;omega⟩
   dsimp only
   by_cases c:whyF ⟨n,m,s.drop (k+j)⟩=0
   ·rw[c] at ck;rw[if_pos c];refine bd ?_ SV.eq_1 g1 g2 ck;try rfl
   ·rw[if_neg c];refine bd ?_ SV.eq_1 g1 g2 ck c;try rfl
theorem Af {r:Rec}:mN r<=82:=by
 unfold mN;split
 ·rename_i c;have hf:=(mD.1 c).blen;rw[gu,jR (by omega)];omega
 ·omega
def uF (r:Rec):List UInt8:=aJ (bI r)
def rowS (l:List Rec):List UInt8:=l.flatMap uF
theorem Hv (l:List Rec) (i:Nat) (h:i<l.length):rowS (l.take (i+1))=rowS (l.take i)++uF l[i]:=by
 unfold rowS;rw[gd l i h,List.flatMap_append];simp
theorem Gx {r:Rec} (h:whyF r=0):(uF r).length<=82:=by
 have:=Af (r:=r);unfold mN at this;rw[if_pos h] at this;exact this
def FK (l:List Rec) (n:Int):Bool:=decide ((l.length:Int)<=n) && l.all fun r=>decide (r.da.length<=300)
theorem Ax (l:List Rec) (n:Int) (hl:l.length<=9223372036854775807) (hr:∀ r∈l,r.ok):call 25 [vl (l.map Rec.enc),vi n] []=some (vb (FK l n),[]):=by
 apply ae Wf rfl;by_cases c:(l.length:Int)<=n
 ·have e0:FK l n=(l.drop 0).all fun r=>decide (r.da.length<=300):=by simp[FK,c]
  refine bd ?_ T5.eq_1;rw[e0];refine io (σ:=Nat) (fun i=>l.length-i) (fun i=>i<=l.length) (fun i=>[vl (l.map Rec.enc),vi i]) (fun i=>(vb ((l.drop i).all fun r=>decide (r.da.length<=300)),([]:Hp))) (fun _=>by simp only[go_sem,seval]) ?_ 0 (zP _) _ ?_
  ·intro i hi R hR;rcases Nat.lt_or_ge i l.length with h|h
   ·have hd:=(hr _ (zN h)).2.2;rw[zD h,List.all_cons];by_cases c2:l[i].da.length<=300
    ·rw[zT c2,Bool.true_and];obtain⟨W,hW⟩:∃ W,W=(List.drop (i+1) l).all fun r=>decide (r.da.length<=300):=⟨_,rfl⟩
     rw[<- hW];refine bd ?_ E6.eq_1 @Rec.len @Rec.tk @Rec.at2;rw[hW];exact hR (i+1) (by first|omega|(simp only[];omega)) (by first|omega|(simp only[];omega)) _ (by simp[go_sem,seval])
    ·rw[zF c2,Bool.false_and]
     (refine bd ?_ E6.eq_1 @Rec.len @Rec.tk @Rec.at2;try exact True.intro)
   ·rw[zC h]
    (refine bd ?_ E6.eq_1;try exact True.intro)
  ·simp[go_sem,seval]
 ·refine bd ?_ T5.eq_1 @FK.eq_1;simp[c]
theorem oZ (s:List UInt8) (a:Nat):(dV s a).1.length<=s.length:=by
 unfold dV;repeat' split
 all_goals (try simp)
 all_goals omega
theorem Gb {r:Rec} (h:Fit r):ib (bI r)=(r,0):=by
 have h0:=h.a0;have h1:=h.a1;have h2:=h.t0;have h3:=h.t1;have ea:((r.at_.toNat:Nat):Int)=r.at_:=by omega
 have et:((r.ti.toNat:Nat):Int)=r.ti:=by omega
 have r1:kA (bI r) 0 0=some (r.at_.toNat,nd r.at_.toNat):=by
  unfold bI;rw[List.append_assoc];exact kN _ _ (by omega)
 have d1:(bI r).drop (nd r.at_.toNat)=ah r.ti.toNat++r.da:=by
  unfold bI nd;rw[List.append_assoc,List.drop_left]
 have r2:kA (ah r.ti.toNat++r.da) 0 0=some (r.ti.toNat,nd r.ti.toNat):=kN _ _ (by omega)
 have d2:(bI r).drop (nd r.at_.toNat+nd r.ti.toNat)=r.da:=by
  rw[<- List.drop_drop,d1];unfold nd;rw[List.drop_left]
 have er:(⟨((r.at_.toNat:Nat):Int),((r.ti.toNat:Nat):Int),r.da⟩:Rec)=r:=by rw[ea,et]
 unfold ib;rw[r1];simp only[];rw[d1,r2];simp only[];rw[d2,er,if_pos (mD.2 h)]
theorem Nw {l:List Rec} (h:∀ r∈l,whyF r=0):(rowS l).length<=82*l.length:=by
 induction l with
 | nil=>simp[rowS]
 | cons r l ih =>
  have h1:=Gx (h r (List.mem_cons_self ..));have h2:=ih fun x hx=>h x (List.mem_cons_of_mem _ hx)
  have e:rowS (r::l)=uF r++rowS l:=rfl;rw[e,zA,List.length_cons];omega
def bH:Nat->List UInt8->Nat->Int->List (Rec × Nat) × Nat × Int
 | 0,_,a,_=>([],a,0)
 | f+1,s,a,b=>if s.length<=a then([],a,0) else
  match dV s a with
  | (t,n,e)=>if e=0 then(if(ib t).2=0 then(if(ib t).1.at_=b then(((ib t).1,a)::(bH f s n (b+1)).1,(bH f s n (b+1)).2) else([],a,3)) else([],a,(ib t).2)) else([],a,e)
theorem eD {s t:List UInt8} {a n f:Nat} {b:Int} (ha:a<s.length) (h:dV s a=(t,n,0)) (hg:(ib t).2=0) (hb:(ib t).1.at_=b):bH (f+1) s a b=(((ib t).1,a)::(bH f s n (b+1)).1,(bH f s n (b+1)).2):=by
 simp only[bH];rw[if_neg (by omega),h];simp only[];rw[if_pos trivial,if_pos hg,if_pos hb]
theorem gG {s t:List UInt8} {a n f:Nat} {b:Int} (ha:a<s.length) (h:dV s a=(t,n,0)) (hg:(ib t).2=0) (hb:(ib t).1.at_≠b):bH (f+1) s a b=([],a,3):=by
 simp only[bH];rw[if_neg (by omega),h];simp only[];rw[if_pos trivial,if_pos hg,if_neg hb]
theorem gI {s t:List UInt8} {a n f:Nat} {b:Int} (ha:a<s.length) (h:dV s a=(t,n,0)) (hg:(ib t).2≠0):bH (f+1) s a b=([],a,(ib t).2):=by
 simp only[bH];rw[if_neg (by omega),h];simp only[];rw[if_pos trivial,if_neg hg]
theorem eG {s t:List UInt8} {a n f:Nat} {e b:Int} (ha:a<s.length) (h:dV s a=(t,n,e)) (he:e≠0):bH (f+1) s a b=([],a,e):=by
 simp only[bH];rw[if_neg (by omega),h];simp only[];rw[if_neg he]
theorem ep {s:List UInt8} {a f:Nat} {b:Int} (ha:s.length<=a):bH f s a b=([],a,0):=by
 cases f with
 | zero=>rfl
 | succ f=>simp only[bH];rw[if_pos ha]
theorem qg {s:List UInt8}:∀ (g g' b:Nat) (o:Int),b<=s.length->s.length<b+g->s.length<b+g'->bH g s b o=bH g' s b o:=by
 intro g;induction g with
 | zero=>intro g' b o hb h1 h2;omega
 | succ g ih =>
  intro g' b o hb h1 h2;obtain⟨g2,rfl⟩:∃ g2,g'=g2+1:=⟨g'-1,by omega⟩
  rcases Nat.lt_or_ge b s.length with hbl|hbl
  ·obtain⟨⟨t',n',e'⟩,hx'⟩:∃ x,dV s b=x:=⟨_,rfl⟩;by_cases he':e'=0
   ·subst he';have hok':=pE hx';by_cases hg:(ib t').2=0
    ·by_cases ho:(ib t').1.at_=o
     ·rw[eD hbl hx' hg ho,eD hbl hx' hg ho,ih g2 n' _ hok'.2 (by omega) (by omega)]
     ·rw[gG hbl hx' hg ho,gG hbl hx' hg ho]
    ·rw[gI hbl hx' hg,gI hbl hx' hg]
   ·rw[eG hbl hx' he',eG hbl hx' he']
  ·rw[ep hbl,ep hbl]
theorem HC (n:Int) (hn : -9223372036854775808<=n∧n<9223372036854775808):call 173 [vi n] []=some (vb (ef n),[]):=by
 apply ae TR rfl;unfold ef;by_cases c:0<=n
 ·have e:IntKind.u64.wrap n=n:=pV ⟨c,by omega⟩
  by_cases c2:n<=1099511627776
  ·(refine bd ?_ Ns.eq_1 e c c2;try exact True.intro)
  ·(refine bd ?_ Ns.eq_1 e c c2;try exact True.intro)
 ·have e:IntKind.u64.wrap n=n+18446744073709551616:=by
   simp[IntKind.wrap,IntKind.bits,IntKind.signed];omega
  (refine bd ?_ Ns.eq_1 e c @Bool.false_and;try exact True.intro)
theorem xI (xs:List L):call 174 [.one (.p 0 0)] [.cells xs]=some (.one (.f 187 [1]),[.cells xs,.cells [.p 0 0]]):=by
 apply ae Us rfl;(simp(disch:=first|decide|omega|(intros;exact aP rfl rfl)|simp only[am]) only[Su,List.mapM_cons,List.mapM_nil,Option.pure_def,Option.bind_eq_bind,Option.bind_some,go_sem,seval,aO])
 simp[trim,V.refs,L.refs]
def i5 (r:List (Rec × Nat) × Nat × Int):V:=.tup [(false,[.d (.l (r.1.map fun x=>x.1.enc))]),(false,[zI ((r.2.1:Nat):Int)]),(false,[zI r.2.2])]
def cD (s:List UInt8) (b:Int):List (Rec × Nat) × Nat × Int:=if ef b=true then bH (s.length+1) s 0 b else([],0,1)
def tw (l:List (Rec × Nat)):L:=match l with|[]=>.ns|_=>.sl 4 3 0 l.length
def tr (l:List (Rec × Nat)):Hp:=match l with|[]=>[]|_=>[.arr 3 (l.map fun x=>x.1.enc) 0]
theorem GX (s:List UInt8) (hs:s.length<=1000000) (b:Int) (hb : -9223372036854775808<=b∧b<9223372036854775808):call 147 [vs s,vi b] []=some (i5 (cD s b),[]):=by
 apply OJ Vj rfl;have hg:=HC b hb;unfold cD i5;cases h:ef b with
 | false =>
  rw[h] at hg;(simp(disch:=first|decide|omega|(intros;exact aP rfl rfl)|simp only[am]) only[Qf,hg,go_sem,seval,aO,gL,A.kind,A.xs,co,A.isN,wg])
  try simp
 | true =>
  rw[h] at hg;have c1:ak call 174 [.one (.p 0 0)] [.cells [zS s,zI 0,zI b,zI 0],.cells [.ns]]=some (.one (.f 187 [2]),[.cells [zS s,zI 0,zI b,zI 0],.cells [.ns],.cells [.p 0 0]]) :=
   aF rfl rfl rfl (xI _) rfl
  (simp(disch:=first|decide|omega|(intros;exact aP rfl rfl)|simp only[am]) only[Qf,hg,c1,go_sem,seval,aO,gL,A.kind,A.xs,co,A.isN,wg])
  rw[P6 (gf:=187) (caps:=[2]) (af:=Oy) (by rfl) Tq rfl]
  generalize hψ:gC call _ _ _ _=ψ;(simp(disch:=first|decide|omega|(intros;exact aP rfl rfl)|simp only[am]) only[Oy,go_sem,seval,aO,gL,A.kind,A.xs,co,A.isN,kn,↓dw,↓cQ])
  have hr:=fun(v:V) (H:Hp)=>(congrFun (congrFun hψ.symm [v]) H).trans (EF _ _ _ _ _ [v] H rfl)
  clear hψ;have hb2:0<=b∧b<=1099511627776:=by simpa[ef] using h
  refine Gw (N:=82) (m:=4) (σ:=Nat × Int × List (Rec × Nat)) (fun t=>s.length-t.1) (fun t=>t.1<=s.length∧t.2.2.length<=t.1∧t.2.1=b+t.2.2.length) (fun t=>[V.one (.y 3 0),V.one (.p 2 0)])
   (fun t=>[.cells [zS s,zI t.1,zI t.2.1,zI 0],.cells [tw t.2.2],.cells [.p 0 0],.dead]++tr t.2.2)
   (fun t=>(i5 (t.2.2++(bH (s.length+1-t.1) s t.1 t.2.1).1,(bH (s.length+1-t.1) s t.1 t.2.1).2),([]:Hp))) ?_ (0,b,[]) ⟨zP _,by simp,by simp⟩ _ _ bA
  rintro⟨a,nx,out⟩ ⟨ha,hout,hnx⟩ R hR;simp only at ha hout hnx;rcases Nat.lt_or_ge a s.length with h|h
  ·obtain⟨f,hf⟩:∃ f,s.length+1-a=f+1:=⟨s.length-a,by omega⟩
   have hn:=Hi s a (by omega) (by omega)
   have htl:=oZ s a;obtain⟨⟨t,n,e⟩,hx⟩:∃ x,dV s a=x:=⟨_,rfl⟩;rw[hx] at hn htl;by_cases he:e=0
   ·subst he;have hok:=pE hx;have hg:=JM t (by simp only[] at htl;omega)
    have hst := @eD s t a n f nx h hx;have hof := @gG s t a n f nx h hx;have hbd := @gI s t a n f nx h hx;obtain⟨⟨r,g⟩,hq⟩:∃ x,ib t=x:=⟨_,rfl⟩;rw[hq] at hg hst hof hbd;simp only[Fu] at hg hst hbd hof;by_cases hz:g=0
    ·subst hz;by_cases ho:r.at_=nx
     ·simp only[hf,hst rfl ho];subst ho;have e3:bH f s n (r.at_+1)=bH (s.length+1-n) s n (r.at_+1):=qg _ _ n _ hok.2 (by omega) (by omega)
      rcases out with _|⟨x,out⟩
      ·simp only[List.length_nil] at hnx hout;(simp(disch:=first|decide|omega|(intros;exact aP rfl rfl)|simp only[am]) only[jO,hn,dJ,hg,Rec.len,Rec.tk,Rec.tkL,Rec.dat,Rec.lenL,Rec.enc,List.map_cons,List.map_nil,List.getElem?_cons_zero,tw,tr,List.append_nil,go_sem,seval,aO,gL,A.kind,A.xs,co,A.isN,kn,↓dw,↓cQ])
       rw[hr];(simp(disch:=first|decide|omega|(intros;exact aP rfl rfl)|simp only[am]) only[kn,go_sem,seval,aO,gL,A.kind,A.xs,co,A.isN])
       (simp(disch:=first|decide|omega|(intros;exact aP rfl rfl)|simp only[am]) only[go_sem,seval,aO,gL,A.kind,A.xs,co,A.isN,kn,↓dw,↓cQ])
       have hR':=hR (n,r.at_+1,[(r,a)]) (by simp only[];omega) ⟨hok.2,by simp;omega,by simp;omega⟩
       simp only[List.singleton_append,<- e3] at hR';exact hR' _ _ bA
      ·simp only[List.length_cons] at hnx hout;(simp(disch:=first|decide|omega|(intros;exact aP rfl rfl)|simp only[am]) only[jO,hn,dJ,hg,Rec.len,Rec.tk,Rec.tkL,Rec.dat,Rec.lenL,Rec.enc,List.map_cons,List.map_nil,List.getElem?_cons_zero,tw,tr,List.append_nil,go_sem,seval,aO,gL,A.kind,A.xs,co,A.isN,kn,↓dw,↓cQ])
       rw[hr];(simp(disch:=first|decide|omega|(intros;exact aP rfl rfl)|simp only[am]) only[kn,go_sem,seval,aO,gL,A.kind,A.xs,co,A.isN])
       (simp(disch:=first|decide|omega|(intros;exact aP rfl rfl)|simp only[am]) only[go_sem,seval,aO,gL,A.kind,A.xs,co,A.isN,kn,↓dw,↓cQ])
       have hR':=hR (n,r.at_+1,(x::out)++[(r,a)]) (by simp only[];omega) ⟨hok.2,by simp;omega,by simp;omega⟩
       simp only[List.append_assoc,List.singleton_append,<- e3,tw,tr,List.cons_append,List.length_cons,zA,List.length_nil,Nat.zero_add,List.map_cons,List.map_append,List.map_nil,Rec.enc] at hR';exact hR' _ _ bA
     ·simp only[hf,hof rfl ho];rcases out with _|⟨x,out⟩
      ·(simp(disch:=first|decide|omega|(intros;exact aP rfl rfl)|simp only[am]) only[jO,hn,dJ,hg,Rec.len,Rec.tk,Rec.tkL,Rec.dat,Rec.lenL,Rec.enc,List.map_cons,List.map_nil,List.getElem?_cons_zero,tw,tr,List.append_nil,ho,go_sem,seval,aO,gL,A.kind,A.xs,co,A.isN,kn,↓dw,↓cQ])
       rw[rJ (q:=3) (k:=0) (by decide) rfl]
       (simp(disch:=first|decide|omega|(intros;exact aP rfl rfl)|simp only[am]) only[kn,Rec.len,Rec.tk,Rec.tkL,Rec.dat,Rec.lenL,Rec.enc,List.map_cons,List.map_nil,go_sem,seval,aO,gL,A.kind,A.xs,co,A.isN,wg])
       simp[i5,Rec.enc]
      ·simp only[List.length_cons] at hnx hout;(simp(disch:=first|decide|omega|(intros;exact aP rfl rfl)|simp only[am]) only[jO,hn,dJ,hg,Rec.len,Rec.tk,Rec.tkL,Rec.dat,Rec.lenL,Rec.enc,List.map_cons,List.map_nil,List.getElem?_cons_zero,tw,tr,List.append_nil,ho,go_sem,seval,aO,gL,A.kind,A.xs,co,A.isN,kn,↓dw,↓cQ])
       rw[rJ (q:=3) (k:=0) (by decide) rfl]
       (simp(disch:=first|decide|omega|(intros;exact aP rfl rfl)|simp only[am]) only[kn,Rec.len,Rec.tk,Rec.tkL,Rec.dat,Rec.lenL,Rec.enc,List.map_cons,List.map_nil,go_sem,seval,aO,gL,A.kind,A.xs,co,A.isN,wg])
       simp[i5,Rec.enc]
    ·simp only[hf,hbd hz];rcases out with _|⟨x,out⟩
     ·(simp(disch:=first|decide|omega|(intros;exact aP rfl rfl)|simp only[am]) only[jO,hn,dJ,hg,Rec.len,Rec.tk,Rec.tkL,Rec.dat,Rec.lenL,Rec.enc,List.map_cons,List.map_nil,List.getElem?_cons_zero,tw,tr,List.append_nil,hz,go_sem,seval,aO,gL,A.kind,A.xs,co,A.isN,kn,↓dw,↓cQ])
      rw[rJ (q:=3) (k:=0) (by decide) rfl]
      (simp(disch:=first|decide|omega|(intros;exact aP rfl rfl)|simp only[am]) only[kn,Rec.len,Rec.tk,Rec.tkL,Rec.dat,Rec.lenL,Rec.enc,List.map_cons,List.map_nil,go_sem,seval,aO,gL,A.kind,A.xs,co,A.isN,wg])
      simp[i5,Rec.enc]
     ·simp only[List.length_cons] at hnx hout;(simp(disch:=first|decide|omega|(intros;exact aP rfl rfl)|simp only[am]) only[jO,hn,dJ,hg,Rec.len,Rec.tk,Rec.tkL,Rec.dat,Rec.lenL,Rec.enc,List.map_cons,List.map_nil,List.getElem?_cons_zero,tw,tr,List.append_nil,hz,go_sem,seval,aO,gL,A.kind,A.xs,co,A.isN,kn,↓dw,↓cQ])
      rw[rJ (q:=3) (k:=0) (by decide) rfl]
      (simp(disch:=first|decide|omega|(intros;exact aP rfl rfl)|simp only[am]) only[kn,Rec.len,Rec.tk,Rec.tkL,Rec.dat,Rec.lenL,Rec.enc,List.map_cons,List.map_nil,go_sem,seval,aO,gL,A.kind,A.xs,co,A.isN,wg])
      simp[i5,Rec.enc]
   ·simp only[hf,eG h hx he];rcases out with _|⟨x,out⟩
    ·(simp(disch:=first|decide|omega|(intros;exact aP rfl rfl)|simp only[am]) only[jO,hn,dJ,hg,Rec.len,Rec.tk,Rec.tkL,Rec.dat,Rec.lenL,Rec.enc,List.map_cons,List.map_nil,List.getElem?_cons_zero,tw,tr,List.append_nil,he,go_sem,seval,aO,gL,A.kind,A.xs,co,A.isN,kn,↓dw,↓cQ])
     rw[rJ (q:=3) (k:=0) (by decide) rfl]
     (simp(disch:=first|decide|omega|(intros;exact aP rfl rfl)|simp only[am]) only[kn,Rec.len,Rec.tk,Rec.tkL,Rec.dat,Rec.lenL,Rec.enc,List.map_cons,List.map_nil,go_sem,seval,aO,gL,A.kind,A.xs,co,A.isN,wg])
     simp[i5,Rec.enc]
    ·simp only[List.length_cons] at hnx hout;(simp(disch:=first|decide|omega|(intros;exact aP rfl rfl)|simp only[am]) only[jO,hn,dJ,hg,Rec.len,Rec.tk,Rec.tkL,Rec.dat,Rec.lenL,Rec.enc,List.map_cons,List.map_nil,List.getElem?_cons_zero,tw,tr,List.append_nil,he,go_sem,seval,aO,gL,A.kind,A.xs,co,A.isN,kn,↓dw,↓cQ])
     rw[rJ (q:=3) (k:=0) (by decide) rfl]
     (simp(disch:=first|decide|omega|(intros;exact aP rfl rfl)|simp only[am]) only[kn,Rec.len,Rec.tk,Rec.tkL,Rec.dat,Rec.lenL,Rec.enc,List.map_cons,List.map_nil,go_sem,seval,aO,gL,A.kind,A.xs,co,A.isN,wg])
     simp[i5,Rec.enc]
  ·rw[ep h];have ea:a=s.length:=by omega
   rcases out with _|⟨x,out⟩
   ·(simp(disch:=first|decide|omega|(intros;exact aP rfl rfl)|simp only[am]) only[jO,Rec.len,Rec.tk,Rec.tkL,Rec.dat,Rec.lenL,Rec.enc,List.map_cons,List.map_nil,List.getElem?_cons_zero,tw,tr,List.append_nil,ea,go_sem,seval,aO,gL,A.kind,A.xs,co,A.isN,kn,↓dw,↓cQ])
    rw[JJ (q:=3) (k:=0) (by decide) rfl]
    (simp(disch:=first|decide|omega|(intros;exact aP rfl rfl)|simp only[am]) only[kn,Rec.len,Rec.tk,Rec.tkL,Rec.dat,Rec.lenL,Rec.enc,List.map_cons,List.map_nil,go_sem,seval,aO,gL,A.kind,A.xs,co,A.isN,wg])
    simp[i5,Rec.enc]
   ·simp only[List.length_cons] at hnx hout;(simp(disch:=first|decide|omega|(intros;exact aP rfl rfl)|simp only[am]) only[jO,Rec.len,Rec.tk,Rec.tkL,Rec.dat,Rec.lenL,Rec.enc,List.map_cons,List.map_nil,List.getElem?_cons_zero,tw,tr,List.append_nil,ea,go_sem,seval,aO,gL,A.kind,A.xs,co,A.isN,kn,↓dw,↓cQ])
    rw[JJ (q:=3) (k:=0) (by decide) rfl]
    (simp(disch:=first|decide|omega|(intros;exact aP rfl rfl)|simp only[am]) only[kn,Rec.len,Rec.tk,Rec.tkL,Rec.dat,Rec.lenL,Rec.enc,List.map_cons,List.map_nil,go_sem,seval,aO,gL,A.kind,A.xs,co,A.isN,wg])
    simp[i5,Rec.enc]
def Ps (x:Rec × Nat):List D:=[.i .i64 x.2]
def jv (r:List (Rec × Nat) × Nat × Int):V:=.tup [(false,[.d (.l (r.1.map fun x=>x.1.enc))]),(false,[.d (.l (r.1.map Ps))]),(false,[zI ((r.2.1:Nat):Int)]),(false,[zI r.2.2])]
theorem Bt (s:List UInt8) (hs:s.length<=1000000) (b:Int) (hb : -9223372036854775808<=b∧b<9223372036854775808):call 77 [vs s,vi b] []=some (jv (cD s b),[]):=by
 apply ae W8 rfl;unfold cD;cases ho:ef b with
 | false =>
  by_cases c0:b<0
  ·refine bd ?_ Ti.eq_1 c0;simp[jv]
  ·have c1:¬ b<=1099511627776:=by simpa[ef,Int.not_lt.1 c0] using ho
   refine bd ?_ Ti.eq_1 c0 c1;simp[jv]
 | true =>
  have hb2:0<=b∧b<=1099511627776:=by simpa[ef] using ho
  refine bd ?_ Ti.eq_1;refine ka (σ:=Nat × Int × List (Rec × Nat)) (fun t=>s.length-t.1) (fun t=>t.1<=s.length∧t.2.2.length<=t.1∧t.2.1=b+t.2.2.length) (fun t=>[vs s,vi b,.one (.sl 0 3 0 t.2.2.length),.one (.sl 1 1 0 t.2.2.length),vi t.1]) (fun t=>[.arr 3 (t.2.2.map fun x=>x.1.enc) 0,.arr 1 (t.2.2.map Ps) 0])
   (fun t=>(jv (t.2.2++(bH (s.length+1-t.1) s t.1 t.2.1).1,(bH (s.length+1-t.1) s t.1 t.2.1).2),([]:Hp))) ?_ (0,b,[]) ⟨zP _,by simp,by simp⟩ _ _ (at_head2 (by decide) (by simp only[List.map_cons,List.map_nil,go_sem,seval];exact rfl) (by simp[aI,aD,ax,aE,aw,V.ren,L.ren,Box.ren,V.refs,L.refs,Box.refs,true_and]) (by simp[aI,aD,ax,aE,aw,V.ren,L.ren,Box.ren,V.refs,L.refs,Box.refs,true_and]))
  rintro⟨a,nx,out⟩ ⟨ha,hout,hnx⟩ R hR;simp only at ha hout hnx;rcases Nat.lt_or_ge a s.length with h|h
  ·obtain⟨f,hf⟩:∃ f,s.length+1-a=f+1:=⟨s.length-a,by omega⟩
   have hn:=qb s a (by omega) (by omega)
   have htl:=oZ s a;obtain⟨⟨t,n,e⟩,hx⟩:∃ x,dV s a=x:=⟨_,rfl⟩;rw[hx] at hn htl;by_cases he:e=0
   ·subst he;have hok:=pE hx;have hg:=A1 t (by simp only[] at htl;omega)
    have hst := @eD s t a n f nx h hx;have hof := @gG s t a n f nx h hx;have hbd := @gI s t a n f nx h hx;obtain⟨⟨r,g⟩,hq⟩:∃ x,ib t=x:=⟨_,rfl⟩;rw[hq] at hg hst hof hbd;simp only[Fu] at hg hst hof hbd;by_cases hz:g=0
    ·subst hz;by_cases ho:r.at_=nx
     ·simp only[hf,hst rfl ho];have e3:bH f s n (nx+1)=bH (s.length+1-n) s n (nx+1):=qg _ _ n _ hok.2 (by omega) (by omega)
      have hm:List.map (fun x:Rec × Nat=>x.1.enc) out++[r.enc]=List.map (fun x=>x.1.enc) (out++[(r,a)]):=by simp
      have hm2:List.map Ps out++[[D.i IntKind.i64 a]]=List.map Ps (out++[(r,a)]):=by simp[Ps]
      have fd:(r.enc.map L.d)[0]?=some (zI nx):=by rw[Rec.fd0,ho]
      (simp(disch:=first|decide|omega|(intros;exact aP rfl rfl)|simp only[am]) only[xz,hn,dJ,hg,Rec.len,Rec.tk,Rec.tkL,Rec.dat,Rec.lenL,fd,<- hnx,go_sem,seval,aO])
      have hR':=hR (n,nx+1,out++[(r,a)]) (by simp only[];omega) ⟨hok.2,by simp;omega,by simp;omega⟩
      simp only[List.append_assoc,List.singleton_append,zA,List.length_cons,List.length_nil,Nat.zero_add,Int.natCast_add,Int.natCast_one,<- Int.add_assoc,<- e3] at hR';exact hR' _ _ (at_head2 (by decide) (by simp only[List.map_cons,List.map_nil,go_sem,seval];exact rfl) (by simp[aI,aD,ax,aE,aw,V.ren,L.ren,Box.ren,V.refs,L.refs,Box.refs,Rec.rfs,Rec.rn,Ps]) (by simp[aI,aD,ax,aE,aw,V.ren,L.ren,Box.ren,V.refs,L.refs,Box.refs,Rec.rfs,Rec.rn,Ps]))
     ·simp only[hf,hof rfl ho];(simp(disch:=first|decide|omega|(intros;exact aP rfl rfl)|simp only[am]) only[xz,hn,dJ,hg,jv,Rec.len,Rec.tk,Rec.tkL,Rec.dat,Rec.lenL,Rec.fd0,ho,<- hnx,go_sem,seval,aO])
      try simp
    ·simp only[hf,hbd hz];refine bd ?_ xz.eq_1 hn @dJ.eq_1 hg @jv.eq_1 @Rec.len @Rec.tk @Rec.tkL @Rec.dat @Rec.lenL;try simp
   ·simp only[hf,eG h hx he];refine bd ?_ xz.eq_1 hn @dJ.eq_1 @jv.eq_1;try simp
  ·have hal:a=s.length:=by omega
   subst hal;simp only[ep (Nat.le_refl _)];refine bd ?_ xz.eq_1 @jv.eq_1;try simp
theorem pM (s:List UInt8) (hs:s.length<=1000000) (b:Int) (hb : -9223372036854775808<=b∧b<9223372036854775808):call 54 [vs s,vi b] []=some (i5 (cD s b),[]):=by
 apply ae Wi rfl;have hp:=Bt s hs b hb;unfold jv at hp
 (refine bd ?_ VV.eq_1 hp @i5.eq_1;try exact True.intro)
theorem Ap {s:List UInt8}:∀ (f a:Nat) (b:Int),a<=s.length->(bH f s a b).1.length+a<=s.length:=by
 intro f;induction f with
 | zero=>intro a b h;simpa[bH] using h
 | succ f ih =>
  intro a b h;rcases Nat.lt_or_ge a s.length with hal|hal
  ·obtain⟨⟨t,n,e⟩,hx⟩:∃ x,dV s a=x:=⟨_,rfl⟩;by_cases he:e=0
   ·subst he;have:=pE hx;by_cases hg:(ib t).2=0
    ·by_cases ho:(ib t).1.at_=b
     ·rw[eD hal hx hg ho];have:=ih n (b+1) (by omega)
      simp only[List.length_cons];omega
     ·rw[gG hal hx hg ho];simpa using h
    ·rw[gI hal hx hg];simpa using h
   ·rw[eG hal hx he];simpa using h
  ·rw[ep hal];simpa using h
theorem n8 (s:List UInt8) (b:Int):(cD s b).1.length<=s.length:=by
 unfold cD;split
 ·have:=Ap (s:=s) (s.length+1) 0 b (zP _);omega
 ·simp
def numB (b:Int) (l:List Rec):Prop:=∀ k (h:k<l.length),l[k].at_=b+k
theorem GE {b:Int} {r:Rec} {l:List Rec} (h:numB b (r::l)):r.at_=b∧numB (b+1) l:=by
 constructor
 ·have:=h 0 (by simp);simpa using this
 ·intro k hk;have:=h (k+1) (by simpa using hk)
  simp only[List.getElem_cons_succ] at this;rw[this];omega
theorem xf {b:Int} {l:List Rec} (w:Nat) (h:numB b l):numB b (l.take w):=by
 intro k hk;rw[List.getElem_take];exact h k _
theorem rB (r:Rec) (l:List Rec):rowS (r::l)=aJ (bI r)++rowS l:=rfl
theorem sP:∀ (l:List Rec) (p q:List UInt8) (f:Nat) (b:Int),(∀ r∈l,whyF r=0)->numB b l->l.length<=f ->
  (bH f (p++(rowS l++q)) p.length b).1.map (·.1)=l++(bH (f-l.length) (p++(rowS l++q)) (p++rowS l).length (b+l.length)).1.map (·.1) ∧
  (bH f (p++(rowS l++q)) p.length b).2=(bH (f-l.length) (p++(rowS l++q)) (p++rowS l).length (b+l.length)).2:=by
 intro l;induction l with
 | nil =>
  intro p q f b _ _ _;have:rowS []=[]:=rfl;simp[this]
 | cons r l ih =>
  intro p q f b hw hn hf;obtain⟨g,rfl⟩:∃ g,f=g+1:=⟨f-1,by simp at hf;omega⟩
  have w0:=hw r (List.mem_cons_self ..);have hfit:=mD.1 w0;have hb:=hfit.blen;have hp:=xr (bI r);have hx:=sN p (bI r) (rowS l++q) (by omega) (by omega)
  have hg:=Gb hfit;have hnn:=GE hn;have e0:p++(rowS (r::l)++q)=p++(aJ (bI r)++(rowS l++q)):=by rw[rB];simp
  have e1:p++(aJ (bI r)++(rowS l++q))=(p++aJ (bI r))++(rowS l++q):=by simp
  have e2:(p++aJ (bI r))++rowS l=p++rowS (r::l):=by rw[rB];simp
  have hlt:p.length<(p++(aJ (bI r)++(rowS l++q))).length:=by simp;omega
  have:=ih (p++aJ (bI r)) q g (b+1) (fun x hx=>hw x (List.mem_cons_of_mem _ hx)) hnn.2 (by simp at hf;omega)
  have hlen:(p++aJ (bI r)).length=p.length+(aJ (bI r)).length:=zA;rw[<- e1,e2,hlen] at this;rw[e0,eD hlt hx (by rw[hg]) (by rw[hg];exact hnn.1),hg]
  have e3:g+1-(r::l).length=g-l.length:=by simp
  have e4:b+((r::l).length:Int)=b+1+(l.length:Int):=by simp;omega
  rw[e3,e4];exact⟨by simp only[List.map_cons,this.1,List.cons_append],this.2⟩
theorem xP:∀ l:List Rec,l.length<=(rowS l).length
 | []=>by simp
 | r::l=>by
  have:=xP l;have hp:=xr (bI r);rw[rB,zA,List.length_cons];omega
def dh (l:List Rec) (k:Nat):Nat:=(rowS (l.take k)).length
theorem AE (l:List Rec) (b:Int) (hb:ef b=true) (hw:∀ r∈l,whyF r=0) (hn:numB b l):(cD (rowS l) b).1.map (·.1)=l∧(cD (rowS l) b).2=((rowS l).length,0):=by
 have hge:=xP l;have h:=sP l [] [] ((rowS l).length+1) b hw hn (by omega)
 simp only[List.nil_append,List.append_nil,List.length_nil] at h;rw[ep (f:=(rowS l).length+1-l.length) (Nat.le_refl _)] at h;unfold cD;rw[if_pos hb];exact⟨by simpa using h.1,h.2⟩
theorem Ko (l:List Rec) (b:Int) (hb:ef b=true) (hw:∀ r∈l,whyF r=0) (hn:numB b l) (w n:Nat) (hwl:w<=l.length) (h1:dh l w<=n) (h2:w=l.length->n<=dh l w) (h3:w<l.length->n<dh l (w+1)) :
  (cD ((rowS l).take n) b).1.map (·.1)=l.take w∧(cD ((rowS l).take n) b).2=(dh l w,if dh l w=n then 0 else 2):=by
 have hw':∀ r∈l.take w,whyF r=0:=fun r hr=>hw r (zZ hr)
 have hge:=xP (l.take w);have hlw:(l.take w).length=w:=by simp;omega
 obtain⟨q,hq,hcase⟩:∃ q,(rowS l).take n=rowS (l.take w)++q∧((q=[]∧dh l w=n)∨(∃ (h:w<l.length) (m:Nat),q=(aJ (bI l[w])).take m∧0<m∧m<(aJ (bI l[w])).length∧dh l w+m=n)):=by
  rcases Nat.lt_or_ge w l.length with h|h
  ·have hes:dh l (w+1)=dh l w+(aJ (bI l[w])).length:=by
    unfold dh;rw[Hv l w h,zA];rfl
   have hlt:=h3 h;have hsp:rowS l=rowS (l.take w)++(aJ (bI l[w])++rowS (l.drop (w+1))):=by
    conv=>lhs;rw[<- zY w l,zD h]
    simp only[rowS,List.flatMap_append,List.flatMap_cons];rfl
   have hx:(rowS l).take n=rowS (l.take w)++(aJ (bI l[w])).take (n-dh l w):=by
    rw[hsp,List.take_append,zL h1];congr 1
    exact List.take_append_of_le_length (by unfold dh at *;omega)
   by_cases he:dh l w=n
   ·refine⟨[],?_,.inl ⟨rfl,he⟩⟩;rw[hx,he,Nat.sub_self];simp
   ·exact⟨_,hx,.inr ⟨h,n-dh l w,rfl,by omega,by omega,by omega⟩⟩
  ·have hwe:w=l.length:=by omega
   have:=h2 hwe;refine⟨[],?_,.inl ⟨rfl,by omega⟩⟩
   rw[hwe,zL (Nat.le_refl _),List.append_nil];refine zL ?_;have e:dh l l.length=(rowS l).length:=by unfold dh;rw[zL (Nat.le_refl _)]
   rw[hwe,e] at h1;exact h1
 have har:=sP (l.take w) [] q ((rowS (l.take w)++q).length+1) b hw' (xf w hn) (by simp;simp at hge;omega)
 simp only[List.nil_append,List.length_nil] at har;unfold cD;rw[if_pos hb,hq];rcases hcase with⟨hqe,he⟩|⟨h,m,hqe,hm0,hm1,he⟩
 ·subst hqe;have z:=ep (s:=rowS (l.take w)++[]) (a:=(rowS (l.take w)).length) (f:=(rowS (l.take w)++[]).length+1-(l.take w).length) (b:=b+((l.take w).length:Int)) (by simp)
  rw[z] at har;rw[if_pos he];exact⟨by simpa using har.1,har.2⟩
 ·have hbl:=(mD.1 (hw l[w] (zN h))).blen;have hc:=FO (rowS (l.take w)) (bI l[w]) m (by omega) (by omega) hm0 hm1
  rw[<- hqe] at hc;have hql:q.length=m:=by rw[hqe];simp;omega
  obtain⟨f,hf⟩:∃ f,(rowS (l.take w)++q).length+1-(l.take w).length=f+1:=⟨(rowS (l.take w)++q).length-(l.take w).length,by simp;simp at hge;omega⟩
  rw[hf,eG (by rw[zA];omega) hc (by decide)] at har
  rw[if_neg (by omega)]
  exact⟨by simpa using har.1,har.2⟩
end Go.Proofs.YtgoifbjgmgbihaaGreat
