import Derived.Test.YtghfhomfppbooaaGreatXZ14Tab
import Derived.Test.YtghfhomfppbooaaGreatVid
set_option linter.unusedSimpArgs false
set_option linter.unusedVariables false
namespace Go.Proofs.YtghfhomfppbooaaGreat
open Go.Vi
theorem zc (sum:iw) (s:List UInt8) (hs:s.length<=9223372036854775807):call 66 [vk .u32 ((sum.toNat:Nat):Int),vs s] []=some (vk .u32 (((bT sum s).toNat:Nat):Int),[]):=by
 apply ai PZ rfl;(simp(disch:=first|decide|omega|(intros;exact rfl)|simp only[aa]) only[Pz,↓jJ,go_sem,seval,aq])
 refine iU (σ:=Nat) (fun k=>s.length-k) (fun k=>k<=s.length) (fun k=>[vs s,vk .u32 ((((s.take k).foldl ox (~~~sum)).toNat:Nat):Int),vi k]) (fun _=>(vk .u32 (((bT sum s).toNat:Nat):Int),[])) (fun _=>by simp only[go_sem,seval]) ?_ 0 (Nat.zero_le _) _ (by simp[go_sem,seval])
 intro k hk R hR;rcases Nat.lt_or_ge k s.length with h|h
 ·(simp(disch:=first|decide|omega|(intros;exact rfl)|simp only[aa]) only[Eu,↓jJ,mM s k h,rW,go_sem,seval,aq])
  have e1:(s.take (k+1)).foldl ox (~~~sum)=ox ((s.take k).foldl ox (~~~sum)) s[k]:=by rw[fc s k h,List.foldl_append];rfl
  generalize (s.take k).foldl ox (~~~sum)=x at *;refine iU (σ:=Nat) (fun j=>8-j) (fun j=>j<=8) (fun j=>[vs s,vk .u32 (((eV j (x ^^^ BitVec.ofNat 32 s[k].toNat)).toNat:Nat):Int),vi k,vi j]) (fun _=>(vk .u32 (((bT sum s).toNat:Nat):Int),[])) (fun _=>by simp only[go_sem,seval]) ?_ 0 (Nat.zero_le _) _ (by simp[eV,go_sem,seval])
  intro j hj R2 hR2;rcases Nat.lt_or_ge j 8 with hj8|hj8
  ·have e2:eV (j+1) (x ^^^ BitVec.ofNat 32 s[k].toNat)=kv (eV j (x ^^^ BitVec.ofNat 32 s[k].toNat)):=ot j 1 _;generalize eV j (x ^^^ BitVec.ofNat 32 s[k].toNat)=y at *;cases hb:y.getLsbD 0 with
   | true =>
    have e3:kv y=(y >>> 1) ^^^ crcP:=by unfold kv;rw[hb];rfl
    (simp(disch:=first|decide|omega|(intros;exact rfl)|simp only[aa]) only[Ck,↓jJ,hb,go_sem,seval,aq])
    exact hR2 (j+1) (by omega) (by omega) _ (by simp[e2,e3,go_sem,seval])
   | false =>
    have e3:kv y=y >>> 1:=by unfold kv;rw[hb];rfl
    (simp(disch:=first|decide|omega|(intros;exact rfl)|simp only[aa]) only[Ck,↓jJ,hb,go_sem,seval,aq])
    exact hR2 (j+1) (by omega) (by omega) _ (by simp[e2,e3,go_sem,seval])
  ·have:j=8:=by omega
   subst this;(simp(disch:=first|decide|omega|(intros;exact rfl)|simp only[aa]) only[Ck,go_sem,seval,aq])
   exact hR (k+1) (by omega) (by omega) _ (by simp[e1,ox,go_sem,seval])
 ·(simp(disch:=first|decide|omega|(intros;exact rfl)|simp only[aa]) only[Eu,↓jJ,go_sem,seval,aq])
  rw[List.take_of_length_le h];rfl
theorem sf (s:List UInt8) (hs:s.length<=9223372036854775807):call 31 [vs s] []=some (vk .u32 (((bT 0#32 s).toNat:Nat):Int),[]):=by
 apply ai Q3 rfl;have h:call 66 [vk .u32 0,vs s] []=some (vk .u32 (((bT 0#32 s).toNat:Nat):Int),[]):=zc 0#32 s hs;(simp(disch:=first|decide|omega|(intros;exact rfl)|simp only[aa]) only[PL,h,go_sem,seval,aq])
theorem pA (x:iw):call 126 [vk .u32 ((x.toNat:Nat):Int)] []=some (vs (cP x),[]):=by
 apply ai OI rfl;(simp(disch:=first|decide|omega|(intros;exact rfl)|simp only[aa]) only[MZ,↓jJ,iS,jG,gy,sM,cP,List.replicate,go_sem,seval,aq])
theorem oD (x:iw):call 113 [vk .u32 ((x.toNat:Nat):Int)] []=some (vs (cP x),[]):=by
 apply ai OZ rfl;(simp(disch:=first|decide|omega|(intros;exact rfl)|simp only[aa]) only[MD,↓jJ,iS,jG,gy,sM,cP,List.replicate,go_sem,seval,aq])
theorem y6:call 143 [] []=some (.agg tabW,[]):=by
 apply ai O6 rfl;(simp(disch:=first|decide|omega|(intros;exact rfl)|simp only[aa]) only[Nx,go_sem,seval,aq])
 refine jn (σ:=Nat) (fun k=>16-k) (fun k=>k<=16) (fun k=>[.one (.p 0 0),.one (.p 1 0),vi k]) (fun k=>[.cells (iD 0),.cells (iD k)]) (fun _=>(V.agg tabW,([]:Hp))) ?_ 0 (Nat.zero_le _) _ _ ?_
 ·intro k hk R hR;rcases Nat.lt_or_ge k 16 with h|h
  ·(simp(disch:=first|decide|omega|(intros;exact rfl)|simp only[aa]) only[zA,↓jJ,go_sem,seval,aq])
   have e0:k % 4294967296=k:=Nat.mod_eq_of_lt (by omega)
   refine jn (σ:=Nat) (fun j=>4-j) (fun j=>j<=4) (fun j=>[.one (.p 0 0),.one (.p 1 0),vi k,vk .u32 (((eV j (BitVec.ofNat 32 k)).toNat:Nat):Int),vi k,vi j]) (fun _=>[.cells (iD 0),.cells (iD k)]) (fun _=>(V.agg tabW,([]:Hp))) ?_ 0 (Nat.zero_le _) _ _ ?_
   ·intro j hj R2 hR2;rcases Nat.lt_or_ge j 4 with hj4|hj4
    ·have e2:eV (j+1) (BitVec.ofNat 32 k)=kv (eV j (BitVec.ofNat 32 k)):=ot j 1 _;generalize eV j (BitVec.ofNat 32 k)=y at *;(simp(disch:=first|decide|omega|(intros;exact rfl)|simp only[aa]) only[AB,↓jJ,↓Pe,↓Cl,<- mA,go_sem,seval,aq])
     exact hR2 (j+1) (by omega) (by omega) _ _ (at_head2 (by decide) (by simp only[List.map_cons,List.map_nil,go_sem,seval];exact rfl) (by simp[aN,aD,ay,aF,ax,V.ren,L.ren,Box.ren,V.refs,L.refs,Box.refs,e2,gK,jq]) (by simp[aN,aD,ay,aF,ax,V.ren,L.ren,Box.ren,V.refs,L.refs,Box.refs,e2,gK,jq]))
    ·have:j=4:=by omega
     subst this;(simp(disch:=first|decide|omega|(intros;exact rfl)|simp only[aa]) only[AB,↓jJ,lO,Fv k h,go_sem,seval,aq])
     exact hR (k+1) (by omega) (by omega) _ _ (at_head2 (by decide) (by simp only[List.map_cons,List.map_nil,go_sem,seval];exact rfl) (by simp[aN,aD,ay,aF,ax,V.ren,L.ren,Box.ren,V.refs,L.refs,Box.refs,gK,jq]) (by simp[aN,aD,ay,aF,ax,V.ren,L.ren,Box.ren,V.refs,L.refs,Box.refs,gK,jq]))
   ·exact(at_head2 (by decide) (by simp only[List.map_cons,List.map_nil,go_sem,seval];exact rfl) (by simp[aN,aD,ay,aF,ax,V.ren,L.ren,Box.ren,V.refs,L.refs,Box.refs,eV,gK,jq,e0]) (by simp[aN,aD,ay,aF,ax,V.ren,L.ren,Box.ren,V.refs,L.refs,Box.refs,eV,gK,jq,e0]))
  ·have:k=16:=by omega
   subst this;have ed:(iD 0).drop 16=[]:=List.drop_eq_nil_of_le (by rw[lO];exact Nat.le_refl _)
   have et:tabW.take 16=tabW:=List.take_of_length_le (by rw[tc];exact Nat.le_refl _)
   (simp(disch:=first|decide|omega|(intros;exact rfl)|simp only[aa]) only[zA,↓jJ,vZ,tc,lO,ed,et,If,tabW_pure,go_sem,seval,aq])
 ·exact(at_head2 (by decide) (by simp only[List.map_cons,List.map_nil,go_sem,seval];exact rfl) (by simp[aN,aD,ay,aF,ax,V.ren,L.ren,Box.ren,V.refs,L.refs,Box.refs,Ge]) (by simp[aN,aD,ay,aF,ax,V.ren,L.ren,Box.ren,V.refs,L.refs,Box.refs,Ge]))
theorem HS (sum:iw) (s:List UInt8) (hs:s.length<=9223372036854775807):call 135 [vk .u32 ((sum.toNat:Nat):Int),vs s] []=some (vk .u32 (((bT sum s).toNat:Nat):Int),[]):=by
 apply ai OP rfl;have e16:tabW.length=16:=tc;(simp(disch:=first|decide|omega|(intros;exact rfl)|simp only[aa]) only[Nr,↓jJ,y6,e16,List.append_nil,go_sem,seval,aq])
 refine jn (σ:=Nat) (fun k=>s.length-k) (fun k=>k<=s.length) (fun k=>[vs s,.one (.p 0 0),vk .u32 ((((s.take k).foldl ox (~~~sum)).toNat:Nat):Int),vi s.length,vi k]) (fun _=>[.cells tabW]) (fun _=>(vk .u32 (((bT sum s).toNat:Nat):Int),([]:Hp))) ?_ 0 (Nat.zero_le _) _ _ (at_head2 (by decide) (by simp only[List.map_cons,List.map_nil,go_sem,seval];exact rfl) (by simp[aN,aD,ay,aF,ax,V.ren,L.ren,Box.ren,V.refs,L.refs,Box.refs,mS,oH]) (by simp[aN,aD,ay,aF,ax,V.ren,L.ren,Box.ren,V.refs,L.refs,Box.refs,mS,oH]))
 intro k hk R hR;rcases Nat.lt_or_ge k s.length with h|h
 ·have e1:(s.take (k+1)).foldl ox (~~~sum)=ox ((s.take k).foldl ox (~~~sum)) s[k]:=by rw[fc s k h,List.foldl_append];rfl
  rw[Ik] at e1;generalize (s.take k).foldl ox (~~~sum)=x at *;have l1:=xw (x ^^^ BitVec.ofNat 32 s[k].toNat);have l2:=xw (((x ^^^ BitVec.ofNat 32 s[k].toNat) >>> 4) ^^^ eV 4 ((x ^^^ BitVec.ofNat 32 s[k].toNat) &&& 15#32));(simp(disch:=first|decide|omega|(intros;exact rfl)|simp only[aa]) only[zd,↓jJ,mM s k h,rW,JF,go_sem,seval,aq])
  exact hR (k+1) (by omega) (by omega) _ _ (at_head2 (by decide) (by simp only[List.map_cons,List.map_nil,go_sem,seval];exact rfl) (by simp[aN,aD,ay,aF,ax,V.ren,L.ren,Box.ren,V.refs,L.refs,Box.refs,mS,oH,e1]) (by simp[aN,aD,ay,aF,ax,V.ren,L.ren,Box.ren,V.refs,L.refs,Box.refs,mS,oH,e1]))
 ·(simp(disch:=first|decide|omega|(intros;exact rfl)|simp only[aa]) only[zd,↓jJ,go_sem,seval,aq])
  rw[List.take_of_length_le h];rfl
def tB (l:List (List UInt8)):iw:=l.foldl bT 0#32
def Iv (s:List UInt8):List D:=[.s s]
theorem Ht (s:List UInt8):(Iv s).length=1:=Eq.trans rfl rfl
theorem HW (s:List UInt8):(Iv s)[0]?=some (.s s):=Eq.trans rfl rfl
theorem yi (l:List (List UInt8)) (hl:l.length<=9223372036854775807) (hs:∀ s∈l,s.length<=9223372036854775807):call 106 [vl (l.map Iv)] []=some (vk .u32 (((tB l).toNat:Nat):Int),[]):=by
 apply ai Ov rfl;(simp(disch:=first|decide|omega|(intros;exact rfl)|simp only[aa]) only[MX,go_sem,seval,aq])
 refine iU (σ:=Nat) (fun k=>l.length-k) (fun k=>k<=l.length) (fun k=>[vk .u32 ((((l.take k).foldl bT 0#32).toNat:Nat):Int),vl (l.map Iv),vi l.length,vi k]) (fun _=>(vk .u32 (((tB l).toNat:Nat):Int),[])) (fun _=>by simp only[go_sem,seval]) ?_ 0 (Nat.zero_le _) _ (by simp[go_sem,seval])
 intro k hk R hR;rcases Nat.lt_or_ge k l.length with h|h
 ·have e1:(l.take (k+1)).foldl bT 0#32=bT ((l.take k).foldl bT 0#32) l[k]:=by rw[fc l k h,List.foldl_append];rfl
  have ho:=HS ((l.take k).foldl bT 0#32) l[k] (hs _ (List.getElem_mem h));(simp(disch:=first|decide|omega|(intros;exact rfl)|simp only[aa]) only[zC,Ht,HW,ho,go_sem,seval,aq])
  exact hR (k+1) (by omega) (by omega) _ (by simp[e1,go_sem,seval])
 ·(simp(disch:=first|decide|omega|(intros;exact rfl)|simp only[aa]) only[zC,go_sem,seval,aq])
  rw[List.take_of_length_le h];rfl
theorem vv (x:iw) (a b:List UInt8):bT x (a++b)=bT (bT x a) b:=by
 simp only[bT,List.foldl_append,BitVec.not_not]
theorem I8 (a b:List UInt8):tB [a,b]=bT 0#32 (a++b):=by simp only[tB,List.foldl_cons,List.foldl_nil,vv]
set_option maxRecDepth 4000 in
theorem Av (n:Nat) (hn:n<18446744073709551616):call 149 [vk .u64 ((n:Nat):Int)] []=some (vi (blen n),[]):=by
 apply ai OV rfl;have last:∀ m:Nat,m<256->IntKind.u8.wrap ((m:Nat):Int)=((m:Nat):Int):=fun m h=>rC (by omega)
 have tab:∀ m:Nat,m<256->IntKind.i64.wrap (((UInt8.ofNat (blen m)).toNat:Nat):Int)=((blen m:Nat):Int):=fun m h=>by
  rw[A3 h];have:=(gr m 8).2 h;exact gI (by omega)
 have b8:∀ m:Nat,m<256->blen m<=8:=fun m h=>(gr m 8).2 h
 by_cases c0:4294967296<=n
 ·have e0:=fH (n) 32 c0;simp only[Nat.reducePow] at e0;by_cases c1:65536<=n / 4294967296
  ·have e1:=fH (n / 4294967296) 16 c1;simp only[Nat.reducePow] at e1;by_cases c2:256<=n / 4294967296 / 65536
   ·have e2:=fH (n / 4294967296 / 65536) 8 c2;simp only[Nat.reducePow] at e2;have hm:n / 4294967296 / 65536 / 256<256:=by omega
    have:=b8 _ hm;have e:((blen n:Nat):Int)=32+16+8+((blen (n / 4294967296 / 65536 / 256):Nat):Int):=by omega
    rw[e];(simp(disch:=first|decide|omega|(intros;exact rfl)|simp only[aa]) only[wg,↓ib,↓ic,↓jM,last _ hm,gZ _ hm,tab _ hm,Int.zero_add,go_sem,seval,aq])
   ·skip
    have hm:n / 4294967296 / 65536<256:=by omega
    have:=b8 _ hm;have e:((blen n:Nat):Int)=32+16+((blen (n / 4294967296 / 65536):Nat):Int):=by omega
    rw[e];(simp(disch:=first|decide|omega|(intros;exact rfl)|simp only[aa]) only[wg,↓ib,↓ic,↓jM,last _ hm,gZ _ hm,tab _ hm,Int.zero_add,go_sem,seval,aq])
  ·skip
   by_cases c2:256<=n / 4294967296
   ·have e2:=fH (n / 4294967296) 8 c2;simp only[Nat.reducePow] at e2;have hm:n / 4294967296 / 256<256:=by omega
    have:=b8 _ hm;have e:((blen n:Nat):Int)=32+8+((blen (n / 4294967296 / 256):Nat):Int):=by omega
    rw[e];(simp(disch:=first|decide|omega|(intros;exact rfl)|simp only[aa]) only[wg,↓ib,↓ic,↓jM,last _ hm,gZ _ hm,tab _ hm,Int.zero_add,go_sem,seval,aq])
   ·skip
    have hm:n / 4294967296<256:=by omega
    have:=b8 _ hm;have e:((blen n:Nat):Int)=32+((blen (n / 4294967296):Nat):Int):=by omega
    rw[e];(simp(disch:=first|decide|omega|(intros;exact rfl)|simp only[aa]) only[wg,↓ib,↓ic,↓jM,last _ hm,gZ _ hm,tab _ hm,Int.zero_add,go_sem,seval,aq])
 ·skip
  by_cases c1:65536<=n
  ·have e1:=fH (n) 16 c1;simp only[Nat.reducePow] at e1;by_cases c2:256<=n / 65536
   ·have e2:=fH (n / 65536) 8 c2;simp only[Nat.reducePow] at e2;have hm:n / 65536 / 256<256:=by omega
    have:=b8 _ hm;have e:((blen n:Nat):Int)=16+8+((blen (n / 65536 / 256):Nat):Int):=by omega
    rw[e];(simp(disch:=first|decide|omega|(intros;exact rfl)|simp only[aa]) only[wg,↓ib,↓ic,↓jM,last _ hm,gZ _ hm,tab _ hm,Int.zero_add,go_sem,seval,aq])
   ·skip
    have hm:n / 65536<256:=by omega
    have:=b8 _ hm;have e:((blen n:Nat):Int)=16+((blen (n / 65536):Nat):Int):=by omega
    rw[e];(simp(disch:=first|decide|omega|(intros;exact rfl)|simp only[aa]) only[wg,↓ib,↓ic,↓jM,last _ hm,gZ _ hm,tab _ hm,Int.zero_add,go_sem,seval,aq])
  ·skip
   by_cases c2:256<=n
   ·have e2:=fH (n) 8 c2;simp only[Nat.reducePow] at e2;have hm:n / 256<256:=by omega
    have:=b8 _ hm;have e:((blen n:Nat):Int)=8+((blen (n / 256):Nat):Int):=by omega
    rw[e];(simp(disch:=first|decide|omega|(intros;exact rfl)|simp only[aa]) only[wg,↓ib,↓ic,↓jM,last _ hm,gZ _ hm,tab _ hm,Int.zero_add,go_sem,seval,aq])
   ·skip
    have hm:n<256:=by omega
    have:=b8 _ hm;have e:((blen n:Nat):Int)=((blen (n):Nat):Int):=by omega
    rw[e];(simp(disch:=first|decide|omega|(intros;exact rfl)|simp only[aa]) only[wg,↓ib,↓ic,↓jM,last _ hm,gZ _ hm,tab _ hm,Int.zero_add,go_sem,seval,aq])
theorem Fq (n:Nat) (hn:n<9223372036854775808):call 142 [vi n] []=some (vi (nd n),[]):=by
 apply ai Of rfl;have h64:=Av n (by omega)
 have hb:blen n<=63:=(gr n 63).2 (by omega)
 have hq:(((blen n:Nat):Int)+6).tdiv 7=(((blen n+6) / 7:Nat):Int):=by rw[Int.tdiv_eq_ediv_of_nonneg (by omega)];omega
 have hm:=I3 n;by_cases c:1<(blen n+6) / 7
 ·have e:nd n=(blen n+6) / 7:=by omega
  rw[e];(simp(disch:=first|decide|omega|(intros;exact rfl)|simp only[aa]) only[Kt,h64,hq,go_sem,seval,aq])
 ·have e:nd n=1:=by omega
  have c':¬ (((blen n+6) / 7:Nat):Int) > 1:=by omega
  rw[e];(simp(disch:=first|decide|omega|(intros;exact rfl)|simp only[aa]) only[Kt,h64,hq,if_neg c',go_sem,seval,aq])
  try rfl
theorem xP (n:Nat) (hn:n<9223372036854775808):call 124 [vi n] []=some (vs (ah n),[]):=by
 apply ai Oj rfl;have hl:=Fq n hn;have h9:=gP hn;obtain⟨m,hm⟩:∃ m,nd n=m+1:=⟨nd n-1,by have:=fJ n;omega⟩
 have hlast:=Dp n m hm;have hlt:n / 128 ^ m<128:=by
  have:=((fh m n).1 hm).1;rw[Nat.div_lt_iff_lt_mul (Nat.pow_pos (by decide))]
  rwa [Nat.pow_succ,Nat.mul_comm] at this
 rw[hm] at hl h9;(simp(disch:=first|decide|omega|(intros;exact rfl)|simp only[aa]) only[MF,hl,Int.mul_one,go_sem,seval,aq])
 refine jn (σ:=Nat) (fun k=>m+1-k) (fun k=>k<=m+1) (fun k=>[vi n,.one (.sl 0 1 0 (m+1)),vi ((m+1:Nat):Int),vi k]) (fun k=>[.arr 1 (putR n (m+1) k) 0]) (fun _=>(vs (ah n),([]:Hp))) ?_ 0 (Nat.zero_le _) _ _ (at_head2 (by decide) (by simp only[List.map_cons,List.map_nil,go_sem,seval];exact rfl) (by simp[aN,aD,ay,aF,ax,V.ren,L.ren,Box.ren,V.refs,L.refs,Box.refs,va]) (by simp[aN,aD,ay,aF,ax,V.ren,L.ren,Box.ren,V.refs,L.refs,Box.refs,va]))
 intro k hk R hR;rcases Nat.lt_or_ge k (m+1) with h|h
 ·have hsh:cA .shr (.i .i64 ((n:Nat):Int)) (.i .u64 (7*((k:Nat):Int)))=some (.i .i64 ((n / 2 ^ (7*k):Nat):Int)):=rH .i64 .u64 n (7*k) (by show 7*k<=64;omega)
  have e2:(2:Nat) ^ (7*k)=128 ^ k:=by rw[Nat.pow_mul]
  have hg:=kr n (m+1) k k h;have hs:=Gc n (m+1) k h;rw[e2] at hsh;(simp(disch:=first|decide|omega|(intros;exact rfl)|simp only[aa]) only[zt,↓hsh,iS,↓P5,hg,hs,go_sem,seval,aq])
  exact hR (k+1) (by omega) (by omega) _ _ (at_head2 (by decide) (by simp only[List.map_cons,List.map_nil,go_sem,seval];exact rfl) (by simp[aN,aD,ay,aF,ax,V.ren,L.ren,Box.ren,V.refs,L.refs,Box.refs,true_and]) (by simp[aN,aD,ay,aF,ax,V.ren,L.ren,Box.ren,V.refs,L.refs,Box.refs,true_and]))
 ·have hk':k=m+1:=by omega
  subst hk';have hg:=kr n (m+1) (m+1) m (by omega)
  have hd:xD n (m+1) m=128+n / 128 ^ m:=by unfold xD;rw[if_pos (by omega),Nat.mod_eq_of_lt hlt]
  rw[hd] at hg;generalize n / 128 ^ m=q at hlast hlt hg;have ha:=Nd (128+q) (by omega)
  have hmod:(128+q) % 128=q:=by omega
  rw[hmod] at ha;have hpl:=kC n (m+1) (m+1);have hw:IntKind.i64.wrap (((m+1:Nat):Int)-1)=((m:Nat):Int):=by rw[gI (by omega)];omega
  have hel:(ah n).length=m+1:=hm;have htk:(aE (ah n)).take (m+1)=aE (ah n):=List.take_of_length_le (by rw[lx,hel];exact Nat.le_refl _)
  (simp(disch:=first|decide|omega|(intros;exact rfl)|simp only[aa]) only[zt,hw,hg,↓ha,hlast,hpl,lx,hel,htk,o3,go_sem,seval,aq])
theorem gY (n:Nat) (hn:n<9223372036854775808):call 111 [vi n] []=some (vs (ah n),[]):=by
 apply ai OY rfl;(simp(disch:=first|decide|omega|(intros;exact rfl)|simp only[aa]) only[Mp,go_sem,seval,aq])
 refine jn (σ:=Nat × List UInt8) (fun s=>s.1) (fun s=>s.1<9223372036854775808∧s.2++ah s.1=ah n∧s.2.length+nd s.1<=9) (fun s=>[vi s.1,vs s.2]) (fun _=>[]) (fun _=>(vs (ah n),([]:Hp))) ?_ (n,[]) ⟨hn,rfl,by simpa using gP hn⟩ _ _ (at_head2 (by decide) (by simp only[List.map_cons,List.map_nil,go_sem,seval];exact rfl) (by simp[aN,aD,ay,aF,ax,V.ren,L.ren,Box.ren,V.refs,L.refs,Box.refs,true_and]) (by simp[aN,aD,ay,aF,ax,V.ren,L.ren,Box.ren,V.refs,L.refs,Box.refs,true_and]))
 rintro⟨k,l⟩ ⟨hk,he,hl⟩ R hR;simp only at hk he hl;rcases Nat.lt_or_ge k 128 with h|h
 ·rw[iO h] at he;have hnd:=fJ k;(simp(disch:=first|decide|omega|(intros;exact rfl)|simp only[aa]) only[A5,iS,jG,gy,sM,go_sem,seval,aq])
  rw[he]
 ·have hq:((k:Nat):Int).tdiv 128=((k / 128:Nat):Int):=by rw[Int.tdiv_eq_ediv_of_nonneg (by omega)];omega
  have hr:((k:Nat):Int).tmod 128=((k % 128:Nat):Int):=by rw[Int.tmod_eq_emod_of_nonneg (by omega)];omega
  rw[oP (by omega)] at he
  rw[nG (by omega)] at hl
  have hw:IntKind.u8.wrap (128+((k % 128:Nat):Int))=((128+k % 128:Nat):Int):=by rw[rC (by omega)];omega
  have hb:UInt8.ofNat (((128+k % 128:Nat):Int)).toNat=UInt8.ofNat (128+k % 128):=rfl;(simp(disch:=first|decide|omega|(intros;exact rfl)|simp only[aa]) only[A5,hq,hr,hw,jG,gy,go_sem,seval,aq])
  exact hR (k / 128,l++[UInt8.ofNat (128+k % 128)]) (by simp only[];omega) ⟨by simp only[];omega,by simp only[];rw[List.append_assoc];exact he,by simp only[List.length_append,List.length_cons,List.length_nil];omega⟩ _ _ (at_head2 (by decide) (by simp only[List.map_cons,List.map_nil,go_sem,seval];exact rfl) (by simp[aN,aD,ay,aF,ax,V.ren,L.ren,Box.ren,V.refs,L.refs,Box.refs,true_and]) (by simp[aN,aD,ay,aF,ax,V.ren,L.ren,Box.ren,V.refs,L.refs,Box.refs,true_and]))
def jY (a:Nat):Option (Nat × Nat)->V
 | some (n,k)=>.tup [(false,[.d (.i .i64 n)]),(false,[.d (.i .i64 ((a+k:Nat):Int))]),(false,[.d (.b true)])]
 | none=>.tup [(false,[.d (.i .i64 0)]),(false,[.d (.i .i64 0)]),(false,[.d (.b false)])]
theorem JT (c i:Nat) (hc:c<128) (hi:i<=8):cA .shl (.i .i64 ((c:Nat):Int)) (.i .u64 (7*((i:Nat):Int)))=some (.i .i64 ((c*2 ^ (7*i):Nat):Int))∧c*2 ^ (7*i)+2 ^ (7*i)<=9223372036854775808:=by
 have h2:2 ^ (7*i)<=2 ^ 56:=Nat.pow_le_pow_right (by decide) (by omega)
 have h3:(c+1)*2 ^ (7*i)<=128*2 ^ 56:=Nat.mul_le_mul (by omega) h2
 have h4:(128:Nat)*2 ^ 56=9223372036854775808:=by decide
 have h5:(c+1)*2 ^ (7*i)=c*2 ^ (7*i)+2 ^ (7*i):=by rw[Nat.add_mul,Nat.one_mul]
 refine⟨?_,by omega⟩
 have hp:0<2 ^ (7*i):=Nat.pow_pos (by decide)
 simp only[cA];rw[if_neg (by omega)]
 have e1:(7*((i:Nat):Int)).toNat=7*i:=by omega
 have e2:min (7*i) IntKind.i64.bits=7*i:=Nat.min_eq_left (by show 7*i<=64;omega)
 rw[e1,e2];have e3:((c:Nat):Int)*2 ^ (7*i)=((c*2 ^ (7*i):Nat):Int):=by simp
 rw[e3,gI (by omega)]
theorem vP (i n:Nat):jx [] i n=none:=rfl
theorem oE (c:UInt8) (r:List UInt8) (i n:Nat):jx (c::r) i n=if 9<=i then none else if 128<=c.toNat then jx r (i+1) (n+c.toNat % 128*128 ^ i) else if c.toNat=0∧0<i then none else some (n+c.toNat*128 ^ i,i+1):=rfl
set_option maxRecDepth 4000 in
theorem pP (s:List UInt8) (a:Nat) (ha:a<9223372036854775808) (hs:s.length<=9223372036854775807):call 133 [vs s,vi a] []=some (jY a (jx (s.drop a) 0 0),[]):=by
 apply ai N4 rfl;(simp(disch:=first|decide|omega|(intros;exact rfl)|simp only[aa]) only[MY,go_sem,seval,aq])
 refine iU (σ:=Nat × Nat) (fun t=>9-t.1) (fun t=>t.1<=9∧t.2<128 ^ t.1) (fun t=>[vs s,vi a,vi t.2,vi t.1]) (fun t=>(jY a (jx (s.drop (a+t.1)) t.1 t.2),([]:Hp))) (fun _=>by simp only[go_sem,seval]) ?_ (0,0) ⟨by decide,by decide⟩ _ (by simp[go_sem,seval])
 rintro⟨i,n⟩ ⟨hi,hn⟩ R hR;simp only at hi hn;rcases Nat.lt_or_ge (a+i) s.length with h|h
 ·rcases Nat.lt_or_ge i 9 with h9|h9
  ·simp only[List.drop_eq_getElem_cons h,oE];rw[if_neg (by omega)]
   obtain⟨c,hc⟩:∃ c,c=s[a+i]:=⟨_,rfl⟩;rw[<- hc];have hg:s[a+i]?=some c:=by rw[hc];simp[h]
   have hc8:=c.toNat_lt;have hm:c.toNat % 128<128:=Nat.mod_lt _ (by decide)
   obtain⟨hsh,hbd⟩:=JT (c.toNat % 128) i hm (by omega)
   have hp:(2:Nat) ^ (7*i)=128 ^ i:=by rw[Nat.pow_mul]
   have hand:=Nd c.toNat (by omega)
   have hor:=Pg n (c.toNat % 128) (7*i) (by rw[hp];exact hn) (by rw[hp] at hbd ⊢;omega)
   rw[hp] at hsh hor hbd;have hidx:(((a:Nat):Int)+((i:Nat):Int)).toNat=a+i:=by omega
   have hnat:((a+(i+1):Nat):Int)=(a:Int)+(i:Int)+1:=by omega
   have hnx:n+c.toNat % 128*128 ^ i<128 ^ (i+1):=by
    have:=Nat.mul_le_mul_right (128 ^ i) (by omega:c.toNat % 128+1<=128)
    rw[Nat.pow_succ,Nat.mul_comm (128 ^ i) 128];rw[Nat.add_mul,Nat.one_mul] at this;omega
   rcases Nat.lt_or_ge c.toNat 128 with h1|h1
   ·rw[if_neg (by omega)]
    have hmm:c.toNat % 128=c.toNat:=Nat.mod_eq_of_lt h1;rw[hmm] at hand hsh hor;by_cases h0:c.toNat=0
    ·by_cases hi0:0<i
     ·rw[if_pos ⟨h0,hi0⟩];(simp(disch:=first|decide|omega|(intros;exact rfl)|simp only[aa]) only[lP,hidx,hg,↓hand,↓hsh,↓hor,jY,go_sem,seval,aq])
     ·rw[if_neg (by omega)]
      (simp(disch:=first|decide|omega|(intros;exact rfl)|simp only[aa]) only[lP,hidx,hg,↓hand,↓hsh,↓hor,hnat,jY,go_sem,seval,aq])
    ·rw[if_neg (by omega)]
     (simp(disch:=first|decide|omega|(intros;exact rfl)|simp only[aa]) only[lP,hidx,hg,↓hand,↓hsh,↓hor,hnat,jY,go_sem,seval,aq])
   ·rw[if_pos h1];(simp(disch:=first|decide|omega|(intros;exact rfl)|simp only[aa]) only[lP,hidx,hg,↓hand,↓hsh,↓hor,go_sem,seval,aq])
    exact hR (i+1,n+c.toNat % 128*128 ^ i) (by simp only[];omega) ⟨by simp only[];omega,hnx⟩ _ (by simp[go_sem,seval])
  ·have e:jx (s.drop (a+i)) i n=none:=by
    rw[List.drop_eq_getElem_cons h,oE,if_pos h9]
   simp only[e];(simp(disch:=first|decide|omega|(intros;exact rfl)|simp only[aa]) only[lP,jY,go_sem,seval,aq])
 ·simp only[List.drop_eq_nil_of_le h,vP];rcases Nat.lt_or_ge i 9 with h9|h9
  ·(simp(disch:=first|decide|omega|(intros;exact rfl)|simp only[aa]) only[lP,jY,go_sem,seval,aq])
  ·(simp(disch:=first|decide|omega|(intros;exact rfl)|simp only[aa]) only[lP,jY,go_sem,seval,aq])
set_option maxRecDepth 4000 in
theorem gu (s:List UInt8) (a:Nat) (ha:a<9223372036854775808) (hs:s.length<=9223372036854775807):call 63 [vs s,vi a] []=some (jY a (jx (s.drop a) 0 0),[]):=by
 apply ai QO rfl;rcases Nat.lt_or_ge a s.length with hal|hal
 ·have e00:(s.take (a+0)).drop a=[]:=List.drop_eq_nil_of_le (by simp;omega)
  rw[show jx (s.drop a) 0 0=jx (s.drop (a+0)) 0 (val ((s.take (a+0)).drop a)) by rw[e00];rfl]
  (simp(disch:=first|decide|omega|(intros;exact rfl)|simp only[aa]) only[OM,go_sem,seval,aq])
  refine jn (σ:=Nat) (fun i=>9-i) (fun i=>i<=9∧a+i<=s.length∧Cx ((s.take (a+i)).drop a)) (fun i=>[vs s,vi a,vi (val ((s.take (a+i)).drop a)),vi ((128 ^ min i 8:Nat):Int),vi i]) (fun _=>[])
   (fun i=>(jY a (jx (s.drop (a+i)) i (val ((s.take (a+i)).drop a))),([]:Hp))) ?_ 0 ⟨by decide,by omega,?_⟩ _ _ ?_
  ·rintro i ⟨hi,hai,hp⟩ R hR;obtain⟨p,hpe⟩:∃ p,p=(s.take (a+i)).drop a:=⟨_,rfl⟩;have hpl:=IF s a i hai;rw[<- hpe] at hp hpl;simp only[<- hpe];have hvl:=Gi p;rw[hpl] at hvl;rcases Nat.lt_or_ge (a+i) s.length with h|h
   ·have hsn:=E0 s a i h;rw[<- hpe] at hsn;rcases Nat.lt_or_ge i 9 with h9|h9
    ·simp only[List.drop_eq_getElem_cons h,oE];rw[if_neg (by omega)]
     obtain⟨c,hc⟩:∃ c,c=s[a+i]:=⟨_,rfl⟩;rw[<- hc] at hsn ⊢;have hg:s[a+i]?=some c:=by rw[hc];simp[h]
     have hc8:=c.toNat_lt;have hm:c.toNat % 128<128:=Nat.mod_lt _ (by decide)
     obtain⟨_,hbd⟩:=JT (c.toNat % 128) i hm (by omega)
     have hpw:(2:Nat) ^ (7*i)=128 ^ i:=by rw[Nat.pow_mul]
     rw[hpw] at hbd;have hmin:min i 8=i:=by omega
     have hidx:(((a:Nat):Int)+((i:Nat):Int)).toNat=a+i:=by omega
     have hr:((c.toNat:Nat):Int).tmod 128=((c.toNat % 128:Nat):Int):=by rw[Int.tmod_eq_emod_of_nonneg (by omega)];omega
     have hmul:((c.toNat % 128:Nat):Int)*((128 ^ i:Nat):Int)=((c.toNat % 128*128 ^ i:Nat):Int):=(Int.natCast_mul _ _).symm;have hw1:IntKind.i64.wrap (((c.toNat % 128*128 ^ i:Nat):Int))=((c.toNat % 128*128 ^ i:Nat):Int):=gI (by omega)
     have hw2:IntKind.i64.wrap (((val p:Nat):Int)+((c.toNat % 128*128 ^ i:Nat):Int))=((val p+c.toNat % 128*128 ^ i:Nat):Int):=by rw[gI (by omega)];omega
     have hwc:IntKind.i64.wrap ((c.toNat:Nat):Int)=((c.toNat:Nat):Int):=gI (by omega)
     have hnat:((a+(i+1):Nat):Int)=(a:Int)+(i:Int)+1:=by omega
     have hto:((a:Int)+(i:Int)+1).toNat=a+i+1:=by omega
     rcases Nat.lt_or_ge c.toNat 128 with h1|h1
     ·rw[if_neg (by omega)]
      have hmm:c.toNat % 128=c.toNat:=Nat.mod_eq_of_lt h1;rw[hmm] at hw1 hw2 hmul hr hbd;have henc:=xq p c hp h1;rw[hpl] at henc;have hput:=gY (val p+c.toNat*128 ^ i) (by omega)
      by_cases h0:c.toNat=0∧0<i
      ·rw[if_pos h0];have hne:(ah (val p+c.toNat*128 ^ i) == p++[c])=false:=by
        rw[beq_eq_false_iff_ne];exact fun e=>(henc.1 e) h0
       (simp(disch:=first|decide|omega|(intros;exact rfl)|simp only[aa]) only[qm,hidx,hg,hwc,hr,hmin,hmul,hw1,hw2,hput,hto,hsn,hne,jY,go_sem,seval,aq])
      ·rw[if_neg h0];have hne:(ah (val p+c.toNat*128 ^ i) == p++[c])=true:=by
        rw[beq_iff_eq];exact henc.2 h0
       (simp(disch:=first|decide|omega|(intros;exact rfl)|simp only[aa]) only[qm,hidx,hg,hwc,hr,hmin,hmul,hw1,hw2,hput,hto,hsn,hne,hnat,jY,go_sem,seval,aq])
     ·rw[if_pos h1];have hv:val (p++[c])=val p+c.toNat % 128*128 ^ i:=by rw[oq,hpl]
      have hb:Cx (p++[c]):=by
       intro x hx;rcases List.mem_append.1 hx with hx|hx
       ·exact hp x hx
       ·simp at hx;subst hx;exact h1
      have hR':=hR (i+1) (by omega)
      simp only[<- Nat.add_assoc,hsn,hv] at hR';rcases Nat.lt_or_ge i 8 with h8|h8
      ·have hmin2:min (i+1) 8=i+1:=by omega
       have hpb:128 ^ i*128<=128 ^ 8:=by rw[<- Nat.pow_succ];exact Nat.pow_le_pow_right (by decide) (by omega)
       have hpe8:(128:Nat) ^ 8=72057594037927936:=by decide
       have hw3:IntKind.i64.wrap (((128 ^ i:Nat):Int)*128)=((128 ^ (i+1):Nat):Int):=by
        rw[Nat.pow_succ,gI (by omega)];omega
       (simp(disch:=first|decide|omega|(intros;exact rfl)|simp only[aa]) only[qm,hidx,hg,hwc,hr,hmin,hmul,hw1,hw2,hw3,go_sem,seval,aq])
       exact hR' ⟨by omega,by omega,hb⟩ _ _ (at_head2 (by decide) (by simp only[List.map_cons,List.map_nil,go_sem,seval];exact rfl) (by simp[aN,aD,ay,aF,ax,V.ren,L.ren,Box.ren,V.refs,L.refs,Box.refs,hmin2]) (by simp[aN,aD,ay,aF,ax,V.ren,L.ren,Box.ren,V.refs,L.refs,Box.refs,hmin2]))
      ·have hi8:i=8:=by omega
       have hmin2:min (i+1) 8=i:=by omega
       (simp(disch:=first|decide|omega|(intros;exact rfl)|simp only[aa]) only[qm,hidx,hg,hwc,hr,hmin,hmul,hw1,hw2,go_sem,seval,aq])
       exact hR' ⟨by omega,by omega,hb⟩ _ _ (at_head2 (by decide) (by simp only[List.map_cons,List.map_nil,go_sem,seval];exact rfl) (by simp[aN,aD,ay,aF,ax,V.ren,L.ren,Box.ren,V.refs,L.refs,Box.refs,hmin2]) (by simp[aN,aD,ay,aF,ax,V.ren,L.ren,Box.ren,V.refs,L.refs,Box.refs,hmin2]))
    ·have e:jx (s.drop (a+i)) i (val p)=none:=by
      rw[List.drop_eq_getElem_cons h,oE,if_pos h9]
     simp only[e];(simp(disch:=first|decide|omega|(intros;exact rfl)|simp only[aa]) only[qm,jY,go_sem,seval,aq])
   ·simp only[List.drop_eq_nil_of_le h,vP];rcases Nat.lt_or_ge i 9 with h9|h9
    ·(simp(disch:=first|decide|omega|(intros;exact rfl)|simp only[aa]) only[qm,jY,go_sem,seval,aq])
    ·(simp(disch:=first|decide|omega|(intros;exact rfl)|simp only[aa]) only[qm,jY,go_sem,seval,aq])
  ·intro c hc;simp at hc
  ·have e0:(s.take (a+0)).drop a=[]:=List.drop_eq_nil_of_le (by simp;omega)
   have e0':(s.take a).drop a=[]:=List.drop_eq_nil_of_le (by simp;omega)
   exact(at_head2 (by decide) (by simp only[List.map_cons,List.map_nil,go_sem,seval];exact rfl) (by simp[aN,aD,ay,aF,ax,V.ren,L.ren,Box.ren,V.refs,L.refs,Box.refs,e0',val]) (by simp[aN,aD,ay,aF,ax,V.ren,L.ren,Box.ren,V.refs,L.refs,Box.refs,e0',val]))
 ·rw[List.drop_eq_nil_of_le hal,vP];(simp(disch:=first|decide|omega|(intros;exact rfl)|simp only[aa]) only[OM,jY,go_sem,seval,aq])
theorem u7 (n:Int):call 134 [vi n] []=some (vb (decide (1<=n) && decide (n<=65536)),[]):=by
 apply ai NV rfl;by_cases c:1<=n
 ·(simp(disch:=first|decide|omega|(intros;exact rfl)|simp only[aa]) only[Ma,c,go_sem,seval,aq])
 ·(simp(disch:=first|decide|omega|(intros;exact rfl)|simp only[aa]) only[Ma,c,Bool.false_and,go_sem,seval,aq])
def xo (b:List UInt8):V:=if 1<=b.length∧b.length<=65536 then .tup [(false,[.d (.s (aK b))]),(false,[.d (.i .i64 0)])] else .tup [(false,[.d (.s [])]),(false,[.d (.i .i64 5)])]
theorem ur (a b:List UInt8) (ha:a.length<=9223372036854775807) (hb:b.length<=9223372036854775807):call 106 [vl [[.s a],[.s b]]] []=some (vk .u32 (((bT 0#32 (a++b)).toNat:Nat):Int),[]):=by
 have:=yi [a,b] (by simp) (by intro s hs;simp at hs;rcases hs with rfl|rfl <;> assumption)
 rw[I8] at this;exact this
theorem tY (b:List UInt8) (hb:b.length<=9223372036854775807):call 125 [vs b] []=some (xo b,[]):=by
 apply ai OA rfl;have hf:=u7 b.length;unfold xo;by_cases c:1<=b.length∧b.length<=65536
 ·have e1:decide (1<=(b.length:Int))=true:=by simp;omega
  have e2:decide ((b.length:Int)<=65536)=true:=by simp;omega
  rw[e1,e2] at hf;have hp:=xP b.length (by omega)
  have hel:(ah b.length).length<=9:=gP (n:=b.length) (by omega)
  have hs:=ur (ah b.length) b (by omega) hb
  have h4:=pA (bT 0#32 (ah b.length++b));have l4:=gh (bT 0#32 (ah b.length++b));rw[if_pos c];(simp(disch:=first|decide|omega|(intros;exact rfl)|simp only[aa]) only[LC,hf,hp,hs,h4,l4,aK,go_sem,seval,aq])
 ·have hf':(decide (1<=(b.length:Int)) && decide ((b.length:Int)<=65536))=false:=by rw[Bool.and_eq_false_iff,decide_eq_false_iff_not,decide_eq_false_iff_not];omega
  rw[hf'] at hf;rw[if_neg c];(simp(disch:=first|decide|omega|(intros;exact rfl)|simp only[aa]) only[LC,hf,go_sem,seval,aq])
theorem gJ (b:List UInt8) (hb:b.length<=9223372036854775807):call 81 [vs b] []=some (xo b,[]):=by
 apply ai Qn rfl;unfold xo;by_cases c:1<=b.length
 ·by_cases c2:b.length<=65536
  ·have hp:=gY b.length (by omega)
   have hel:(ah b.length).length<=9:=gP (n:=b.length) (by omega)
   have hs:=sf (ah b.length++b) (by simp;omega)
   have h4:=oD (bT 0#32 (ah b.length++b));have l4:=gh (bT 0#32 (ah b.length++b));rw[if_pos ⟨c,c2⟩];(simp(disch:=first|decide|omega|(intros;exact rfl)|simp only[aa]) only[Ny,hp,hs,h4,l4,aK,go_sem,seval,aq])
  ·rw[if_neg (by omega)]
   (simp(disch:=first|decide|omega|(intros;exact rfl)|simp only[aa]) only[Ny,go_sem,seval,aq])
 ·rw[if_neg (by omega)]
  (simp(disch:=first|decide|omega|(intros;exact rfl)|simp only[aa]) only[Ny,go_sem,seval,aq])
theorem Dc (l:List UInt8) (hl:l.length<=9223372036854775807):call 132 [vs l] []=some (vb (jg l),[]):=by
 apply ai OH rfl;by_cases c:l.length<=8
 ·have e:jg l=(l.drop 0).all fun c=>decide (128<=c.toNat):=by simp[jg,c]
  rw[e];(simp(disch:=first|decide|omega|(intros;exact rfl)|simp only[aa]) only[Lp,go_sem,seval,aq])
  refine iU (σ:=Nat) (fun k=>l.length-k) (fun k=>k<=l.length) (fun k=>[vs l,vi l.length,vi k]) (fun k=>(vb ((l.drop k).all fun c=>decide (128<=c.toNat)),([]:Hp))) (fun _=>by simp only[go_sem,seval]) ?_ 0 (Nat.zero_le _) _ (by simp[go_sem,seval])
  intro k hk R hR;rcases Nat.lt_or_ge k l.length with h|h
  ·simp only[List.drop_eq_getElem_cons h,List.all_cons];by_cases c1:128<=l[k].toNat
   ·rw[decide_eq_true c1,Bool.true_and];(simp(disch:=first|decide|omega|(intros;exact rfl)|simp only[aa]) only[vD,mM l k h,go_sem,seval,aq])
    exact hR (k+1) (by first|omega|(simp only[];omega)) (by first|omega|(simp only[];omega)) _ (by simp[go_sem,seval])
   ·rw[decide_eq_false c1,Bool.false_and];(simp(disch:=first|decide|omega|(intros;exact rfl)|simp only[aa]) only[vD,mM l k h,go_sem,seval,aq])
  ·(simp(disch:=first|decide|omega|(intros;exact rfl)|simp only[aa]) only[vD,List.drop_eq_nil_of_le h,List.all_nil,go_sem,seval,aq])
 ·have e:jg l=false:=by simp[jg,c]
  rw[e];(simp(disch:=first|decide|omega|(intros;exact rfl)|simp only[aa]) only[Lp,go_sem,seval,aq])
theorem Ea (s:List UInt8) (a:Nat) (ha:a<=s.length) (hs:s.length<=9223372036854775807):call 110 [vs s,vi a] []=some (vb (jg (s.drop a)),[]):=by
 apply ai Ob rfl;have e:jg (s.drop a)=(((s.drop (a+0)).all fun c=>decide (128<=c.toNat)) && decide (s.length-a<=8)):=by simp[jg,Bool.and_comm]
 rw[e];(simp(disch:=first|decide|omega|(intros;exact rfl)|simp only[aa]) only[Nl,go_sem,seval,aq])
 refine iU (σ:=Nat) (fun k=>s.length-k) (fun k=>k<=s.length) (fun k=>[vs s,vi a,vi k]) (fun k=>(vb (((s.drop k).all fun c=>decide (128<=c.toNat)) && decide (s.length-a<=8)),([]:Hp))) (fun _=>by simp only[go_sem,seval]) ?_ a ha _ (by simp[go_sem,seval])
 intro k hk R hR;rcases Nat.lt_or_ge k s.length with h|h
 ·simp only[List.drop_eq_getElem_cons h,List.all_cons];by_cases c1:128<=s[k].toNat
  ·rw[decide_eq_true c1,Bool.true_and];(simp(disch:=first|decide|omega|(intros;exact rfl)|simp only[aa]) only[su,mM s k h,go_sem,seval,aq])
   exact hR (k+1) (by first|omega|(simp only[];omega)) (by first|omega|(simp only[];omega)) _ (by simp[go_sem,seval])
  ·rw[decide_eq_false c1,Bool.false_and,Bool.false_and];(simp(disch:=first|decide|omega|(intros;exact rfl)|simp only[aa]) only[su,mM s k h,go_sem,seval,aq])
 ·rw[List.drop_eq_nil_of_le h,List.all_nil,Bool.true_and];by_cases c:s.length-a<=8
  ·rw[decide_eq_true c];(simp(disch:=first|decide|omega|(intros;exact rfl)|simp only[aa]) only[su,go_sem,seval,aq])
  ·rw[decide_eq_false c];(simp(disch:=first|decide|omega|(intros;exact rfl)|simp only[aa]) only[su,go_sem,seval,aq])
def cW (r:List UInt8 × Nat × Int):V:=.tup [(false,[.d (.s r.1)]),(false,[.d (.i .i64 ((r.2.1:Nat):Int))]),(false,[.d (.i .i64 r.2.2)])]
theorem FS (n:Nat):call 134 [vi n] []=some (vb (jm n),[]):=by
 have:=u7 n;have e:(decide (1<=(n:Int)) && decide ((n:Int)<=65536))=jm n:=by
  unfold jm;congr 1 <;> (rw[decide_eq_decide];omega)
 rwa [e] at this
set_option maxRecDepth 8000 in
theorem uQ (s:List UInt8) (a:Nat) (ha:a<9223372036854775808) (hs:s.length<=4611686018427387904):call 101 [vs s,vi a] []=some (cW (cr s a),[]):=by
 apply ai Oo rfl;unfold cr;rcases Nat.lt_or_ge a s.length with hal|hal
 ·have ho:=Dc (s.drop a) (by simp;omega)
  cases hop:jg (s.drop a) with
  | true =>
   rw[hop] at ho;rw[if_pos (.inr rfl)];(simp(disch:=first|decide|omega|(intros;exact rfl)|simp only[aa]) only[xG,ho,cW,go_sem,seval,aq])
   try rfl
  | false =>
   rw[hop] at ho;rw[if_neg (by simp;omega)]
   have hrd:=pP s a ha (by omega)
   cases hr:jx (s.drop a) 0 0 with
   | none =>
    rw[hr] at hrd;(simp(disch:=first|decide|omega|(intros;exact rfl)|simp only[aa]) only[xG,ho,hrd,jY,cW,go_sem,seval,aq])
    try rfl
   | some q =>
    obtain⟨n,k⟩:=q;rw[hr] at hrd;obtain⟨te,t1,t2,t3⟩:=gW hr;have hft:=FS n;dsimp only
    by_cases hfn:jm n=false
    ·rw[hfn] at hft;rw[if_pos hfn];(simp(disch:=first|decide|omega|(intros;exact rfl)|simp only[aa]) only[xG,ho,hrd,jY,hft,cW,go_sem,seval,aq])
     try rfl
    ·have hfn:jm n=true:=by simpa using hfn
     rw[hfn] at hft;have hn:1<=n∧n<=65536:=by simpa[jm] using hfn
     have e1:((a+k:Nat):Int)+4=((a+k+4:Nat):Int):=rfl;have e3:((a+k+4:Nat):Int)+((n:Nat):Int)=((a+k+4+n:Nat):Int):=rfl;have e4:IntKind.i64.wrap (((a+k+4:Nat):Int)-4)=((a+k:Nat):Int):=by rw[gI (by omega)];omega
     rw[if_neg (by rw[hfn];decide)]
     by_cases hsh:s.length<a+k+4+n
     ·rw[if_pos hsh];(simp(disch:=first|decide|omega|(intros;exact rfl)|simp only[aa]) only[xG,ho,hrd,jY,hft,cW,e1,go_sem,seval,aq])
      try rfl
     ·rw[if_neg hsh];have hcs:=ur (ah n) ((s.take (a+k+4+n)).drop (a+k+4)) (by have:(ah n).length<=9:=gP (n:=n) (by omega);omega) (by simp;omega)
      have h4:=pA (bT 0#32 (ah n++(s.take (a+k+4+n)).drop (a+k+4)));by_cases hq:cP (bT 0#32 (ah n++(s.take (a+k+4+n)).drop (a+k+4)))=(s.take (a+k+4)).drop (a+k)
      ·have hb:(cP (bT 0#32 (ah n++(s.take (a+k+4+n)).drop (a+k+4))) == (s.take (a+k+4)).drop (a+k))=true:=by rw[beq_iff_eq];exact hq
       rw[if_pos hq];(simp(disch:=first|decide|omega|(intros;exact rfl)|simp only[aa]) only[xG,ho,hrd,jY,hft,cW,e1,e3,e4,te,hcs,h4,hb,go_sem,seval,aq])
      ·have hb:(cP (bT 0#32 (ah n++(s.take (a+k+4+n)).drop (a+k+4))) == (s.take (a+k+4)).drop (a+k))=false:=by rw[beq_eq_false_iff_ne];exact hq
       rw[if_neg hq];(simp(disch:=first|decide|omega|(intros;exact rfl)|simp only[aa]) only[xG,ho,hrd,jY,hft,cW,e1,e3,e4,te,hcs,h4,hb,go_sem,seval,aq])
       try rfl
 ·rw[if_pos (.inl hal)];(simp(disch:=first|decide|omega|(intros;exact rfl)|simp only[aa]) only[xG,cW,go_sem,seval,aq])
  try rfl
set_option maxRecDepth 8000 in
theorem wj (s:List UInt8) (a:Nat) (ha:a<9223372036854775808) (hs:s.length<=4611686018427387904):call 62 [vs s,vi a] []=some (cW (cr s a),[]):=by
 apply ai Qd rfl;unfold cr;rcases Nat.lt_or_ge a s.length with hal|hal
 ·have ho:=Ea s a (by omega) (by omega)
  cases hop:jg (s.drop a) with
  | true =>
   rw[hop] at ho;rw[if_pos (.inr rfl)];(simp(disch:=first|decide|omega|(intros;exact rfl)|simp only[aa]) only[I1,ho,cW,go_sem,seval,aq])
   try rfl
  | false =>
   rw[hop] at ho;rw[if_neg (by simp;omega)]
   have hrd:=gu s a ha (by omega)
   cases hr:jx (s.drop a) 0 0 with
   | none =>
    rw[hr] at hrd;(simp(disch:=first|decide|omega|(intros;exact rfl)|simp only[aa]) only[I1,ho,hrd,jY,cW,go_sem,seval,aq])
    try rfl
   | some q =>
    obtain⟨n,k⟩:=q;rw[hr] at hrd;obtain⟨te,t1,t2,t3⟩:=gW hr;dsimp only
    by_cases hfn:jm n=false
    ·rw[if_pos hfn];have hn':n<1∨65536<n:=by
      simp only[jm,Bool.and_eq_false_iff,decide_eq_false_iff_not] at hfn;omega
     by_cases h0:n<1
     ·(simp(disch:=first|decide|omega|(intros;exact rfl)|simp only[aa]) only[I1,ho,hrd,jY,cW,go_sem,seval,aq])
      try rfl
     ·(simp(disch:=first|decide|omega|(intros;exact rfl)|simp only[aa]) only[I1,ho,hrd,jY,cW,go_sem,seval,aq])
      try rfl
    ·have hfn:jm n=true:=by simpa using hfn
     have hn:1<=n∧n<=65536:=by simpa[jm] using hfn
     have e1:((a+k:Nat):Int)+4=((a+k+4:Nat):Int):=rfl;have e3:((a+k+4:Nat):Int)+((n:Nat):Int)=((a+k+4+n:Nat):Int):=rfl;have e4:IntKind.i64.wrap (((a+k+4:Nat):Int)-4)=((a+k:Nat):Int):=by rw[gI (by omega)];omega
     rw[if_neg (by rw[hfn];decide)]
     by_cases hsh:s.length<a+k+4+n
     ·rw[if_pos hsh];(simp(disch:=first|decide|omega|(intros;exact rfl)|simp only[aa]) only[I1,ho,hrd,jY,cW,e1,go_sem,seval,aq])
      try rfl
     ·rw[if_neg hsh];have htl:((s.take (a+k+4+n)).drop (a+k+4)).length=n:=by simp;omega
      have hpf:=gJ ((s.take (a+k+4+n)).drop (a+k+4)) (by omega)
      unfold xo at hpf;rw[htl,if_pos hn] at hpf;have hsp:(s.take (a+k+4+n)).drop a=ah n++(s.take (a+k+4)).drop (a+k)++(s.take (a+k+4+n)).drop (a+k+4):=by
       rw[<- te];have s1:∀ (l:List UInt8) (i j m:Nat),i<=j->j<=m->(l.take m).drop i=(l.take j).drop i++(l.take m).drop j:=by
        intro l i j m hij hjm;have e:l.take m=l.take j++(l.take m).drop j:=by
         conv=>lhs;rw[<- List.take_append_drop j (l.take m),List.take_take,Nat.min_eq_left hjm]
        rcases Nat.lt_or_ge l.length j with hlj|hlj
        ·have:(l.take m).drop j=[]:=List.drop_eq_nil_of_le (by simp;omega)
         rw[this,List.append_nil,List.take_of_length_le (by omega),List.take_of_length_le (by omega)]
        ·conv=>lhs;rw[e]
         rw[List.drop_append_of_le_length (by simp;omega)]
       rw[s1 s a (a+k) (a+k+4+n) (by omega) (by omega),s1 s (a+k) (a+k+4) (a+k+4+n) (by omega) (by omega),List.append_assoc]
      have hto:((a+k+4+n:Nat):Int).toNat=a+k+4+n:=rfl;have e5:4+((n:Nat):Int)=((4+n:Nat):Int):=rfl;have hff:aK ((s.take (a+k+4+n)).drop (a+k+4))=ah n++cP (bT 0#32 (ah n++(s.take (a+k+4+n)).drop (a+k+4)))++(s.take (a+k+4+n)).drop (a+k+4):=by
       unfold aK;rw[htl]
      by_cases hq:cP (bT 0#32 (ah n++(s.take (a+k+4+n)).drop (a+k+4)))=(s.take (a+k+4)).drop (a+k)
      ·have hb:(aK ((s.take (a+k+4+n)).drop (a+k+4)) == (s.take (a+k+4+n)).drop a)=true:=by rw[beq_iff_eq,hff,hsp,hq]
       rw[if_pos hq];(simp(disch:=first|decide|omega|(intros;exact rfl)|simp only[aa]) only[I1,ho,hrd,jY,cW,e1,e3,e5,hpf,hb,go_sem,seval,aq])
      ·have hb:(aK ((s.take (a+k+4+n)).drop (a+k+4)) == (s.take (a+k+4+n)).drop a)=false:=by
        rw[beq_eq_false_iff_ne,hff,hsp];intro he;exact hq (List.append_cancel_left (List.append_cancel_right he))
       rw[if_neg hq];(simp(disch:=first|decide|omega|(intros;exact rfl)|simp only[aa]) only[I1,ho,hrd,jY,cW,e1,e3,e5,hpf,hb,go_sem,seval,aq])
       try rfl
 ·rw[if_pos (.inl hal)];(simp(disch:=first|decide|omega|(intros;exact rfl)|simp only[aa]) only[I1,cW,go_sem,seval,aq])
  try rfl
structure Rec where
 at_:Int
 ti:Int
 da:List UInt8
 deriving DecidableEq
def Rec.enc (e:Rec):List D:=[.i .i64 e.at_,.i .i64 e.ti,.s e.da]
theorem Rec.len (e:Rec):e.enc.length=3:=Eq.trans rfl rfl
theorem Rec.tk (e:Rec):e.enc.take 3=e.enc:=Eq.trans rfl rfl
theorem Rec.tkL (e:Rec):(e.enc.map L.d).take 3=e.enc.map L.d:=Eq.trans rfl rfl
theorem Rec.dat (e:Rec):eb (e.enc.map L.d)=some (e.enc.map L.d):=Eq.trans rfl rfl
theorem Rec.rfs (e:Rec):(e.enc.map L.d).flatMap L.refs=[]:=Eq.trans rfl rfl
theorem Rec.rn (e:Rec) (g:Nat->Option Nat):(e.enc.map L.d).map (L.ren g)=e.enc.map L.d:=Eq.trans rfl rfl
theorem Rec.lenL (e:Rec):(e.enc.map L.d).length=3:=Eq.trans rfl rfl
theorem Rec.at0 (e:Rec):e.enc[0]?=some (.i .i64 e.at_):=Eq.trans rfl rfl
theorem Rec.fd0 (e:Rec):(e.enc.map L.d)[0]?=some (.d (.i .i64 e.at_)):=Eq.trans rfl rfl
theorem Rec.at1 (e:Rec):(e.enc.drop 1)[0]?=some (.i .i64 e.ti):=Eq.trans rfl rfl
theorem Rec.fd1 (e:Rec):(e.enc.map L.d)[1]?=some (.d (.i .i64 e.ti)):=Eq.trans rfl rfl
theorem Rec.at2 (e:Rec):(e.enc.drop 2)[0]?=some (.s e.da):=Eq.trans rfl rfl
theorem Rec.fd2 (e:Rec):(e.enc.map L.d)[2]?=some (.d (.s e.da)):=Eq.trans rfl rfl
theorem Rec.up1 (e:Rec) (x:Int):e.enc.take 1++[.i .i64 x]++e.enc.drop 2=({ e with ti:=x }:Rec).enc:=Eq.trans rfl rfl
theorem Rec.up2 (e:Rec) (x:List UInt8):e.enc.take 2++[.s x]++e.enc.drop 3=({ e with da:=x }:Rec).enc:=Eq.trans rfl rfl
def Rec.ok (e:Rec):Prop:=(-9223372036854775808<=e.at_∧e.at_<9223372036854775808)∧(-9223372036854775808<=e.ti∧e.ti<9223372036854775808)∧e.da.length<=9223372036854775807
def Rec.ty:List Ty:=[.i .i64,.i .i64,.s]
theorem Rec.eqs (a b:Rec):fT [0,0,2] (a.enc.map L.d) (b.enc.map L.d)=some (decide (a=b)):=by
 cases a;cases b;simp only[Rec.enc,List.map_cons,List.map_nil,fT,oT,if_true,Rec.mk.injEq];congr 1
 rw[Bool.eq_iff_iff];simp only[Bool.and_eq_true,beq_iff_eq,decide_eq_true_eq,and_true]
theorem Rec.of (r:List D) (h:cC Rec.ty r):∃ e:Rec,r=e.enc∧e.ok:=by
 simp only[Rec.ty,cC,Ee] at h;obtain⟨_,_,rfl,⟨x0,rfl,h0,g0⟩,⟨_,_,rfl,⟨x1,rfl,h1,g1⟩,⟨_,_,rfl,⟨x2,rfl,h2⟩,rfl⟩⟩⟩:=h;refine⟨⟨x0,x1,x2⟩,rfl,?_⟩;exact⟨⟨Int.le_trans (by decide) h0,Int.lt_of_le_of_lt g0 (by decide)⟩,⟨Int.le_trans (by decide) h1,Int.lt_of_le_of_lt g1 (by decide)⟩,h2⟩
def dy (n:Int):Bool:=decide (0<=n) && decide (n<=1099511627776)
def whyF (r:Rec):Int:=if dy r.at_=true∧dy r.ti=true then(if r.da.length<=64 then 0 else 5) else 6
theorem G6 {n:Int} (h:dy n=true):0<=n∧n<=1099511627776:=by simpa[dy] using h
theorem yk (n:Int) (hn : -9223372036854775808<=n∧n<9223372036854775808):call 153 [vi n] []=some (vb (!dy n),[]):=by
 apply ai OU rfl;by_cases c:0<=n
 ·by_cases c2:n<=1099511627776
  ·have e:IntKind.u64.wrap n=n:=oF (by omega)
   have eo:dy n=true:=by simp[dy,c,c2]
   (simp(disch:=first|decide|omega|(intros;exact rfl)|simp only[aa]) only[JC,e,eo,go_sem,seval,aq])
  ·have e:IntKind.u64.wrap n=n:=oF (by omega)
   have eo:dy n=false:=by simp[dy,c,c2]
   (simp(disch:=first|decide|omega|(intros;exact rfl)|simp only[aa]) only[JC,e,eo,go_sem,seval,aq])
 ·have e:IntKind.u64.wrap n=n+18446744073709551616:=by
   show n % 18446744073709551616=_;omega
  have eo:dy n=false:=by simp[dy,c]
  (simp(disch:=first|decide|omega|(intros;exact rfl)|simp only[aa]) only[JC,e,eo,go_sem,seval,aq])
theorem jQ (n:Int):call 76 [vi n] []=some (vb (dy n),[]):=by
 apply ai Qh rfl;by_cases c:0<=n
 ·(simp(disch:=first|decide|omega|(intros;exact rfl)|simp only[aa]) only[OJ,dy,c,go_sem,seval,aq])
 ·(simp(disch:=first|decide|omega|(intros;exact rfl)|simp only[aa]) only[OJ,dy,c,Bool.false_and,go_sem,seval,aq])
theorem zX (r:Rec) (hr:r.ok):call 151 [.agg (r.enc.map .d)] []=some (vi (whyF r),[]):=by
 apply ai OW rfl;obtain⟨h1,h2,h3⟩:=hr;have f1:=yk r.at_ h1;have f2:=yk r.ti h2;unfold whyF;cases c1:dy r.at_ with
 | false =>
  rw[c1] at f1;(simp(disch:=first|decide|omega|(intros;exact rfl)|simp only[aa]) only[GX,Rec.len,Rec.tk,Rec.fd0,Rec.fd1,Rec.fd2,Rec.at0,Rec.at1,Rec.at2,f1,f2,go_sem,seval,aq])
  try simp
 | true =>
  cases c2:dy r.ti with
  | false =>
   rw[c1] at f1;rw[c2] at f2;(simp(disch:=first|decide|omega|(intros;exact rfl)|simp only[aa]) only[GX,Rec.len,Rec.tk,Rec.fd0,Rec.fd1,Rec.fd2,Rec.at0,Rec.at1,Rec.at2,f1,f2,go_sem,seval,aq])
   try simp
  | true =>
   rw[c1] at f1;rw[c2] at f2;by_cases c3:r.da.length<=64
   ·(simp(disch:=first|decide|omega|(intros;exact rfl)|simp only[aa]) only[GX,Rec.len,Rec.tk,Rec.fd0,Rec.fd1,Rec.fd2,Rec.at0,Rec.at1,Rec.at2,f1,f2,go_sem,seval,aq])
    try simp[c3]
   ·(simp(disch:=first|decide|omega|(intros;exact rfl)|simp only[aa]) only[GX,Rec.len,Rec.tk,Rec.fd0,Rec.fd1,Rec.fd2,Rec.at0,Rec.at1,Rec.at2,f1,f2,go_sem,seval,aq])
    try simp[c3]
theorem xn (r:Rec) (hr:r.ok):call 80 [.agg (r.enc.map .d)] []=some (vi (whyF r),[]):=by
 apply ai QG rfl;obtain⟨h1,h2,h3⟩:=hr;have f1:=jQ r.at_;have f2:=jQ r.ti;unfold whyF;cases c1:dy r.at_ with
 | false =>
  rw[c1] at f1;(simp(disch:=first|decide|omega|(intros;exact rfl)|simp only[aa]) only[MB,Rec.len,Rec.tk,Rec.fd0,Rec.fd1,Rec.fd2,Rec.at0,Rec.at1,Rec.at2,f1,f2,go_sem,seval,aq])
  try simp
 | true =>
  cases c2:dy r.ti with
  | false =>
   rw[c1] at f1;rw[c2] at f2;(simp(disch:=first|decide|omega|(intros;exact rfl)|simp only[aa]) only[MB,Rec.len,Rec.tk,Rec.fd0,Rec.fd1,Rec.fd2,Rec.at0,Rec.at1,Rec.at2,f1,f2,go_sem,seval,aq])
   try simp
  | true =>
   rw[c1] at f1;rw[c2] at f2;by_cases c3:r.da.length<=64
   ·(simp(disch:=first|decide|omega|(intros;exact rfl)|simp only[aa]) only[MB,Rec.len,Rec.tk,Rec.fd0,Rec.fd1,Rec.fd2,Rec.at0,Rec.at1,Rec.at2,f1,f2,go_sem,seval,aq])
    try simp[c3]
   ·(simp(disch:=first|decide|omega|(intros;exact rfl)|simp only[aa]) only[MB,Rec.len,Rec.tk,Rec.fd0,Rec.fd1,Rec.fd2,Rec.at0,Rec.at1,Rec.at2,f1,f2,go_sem,seval,aq])
    try simp[c3]
theorem nh (r:Rec):call 43 [.agg (r.enc.map .d)] []=some (vb (decide (whyF r=0)),[]):=by
 apply ai QP rfl;have f1:=jQ r.at_;have f2:=jQ r.ti;unfold whyF;cases c1:dy r.at_ with
 | false =>
  rw[c1] at f1;(simp(disch:=first|decide|omega|(intros;exact rfl)|simp only[aa]) only[M1,Rec.len,Rec.tkL,Rec.dat,Rec.lenL,Rec.fd0,Rec.fd1,Rec.fd2,Rec.at0,Rec.at1,Rec.at2,f1,f2,go_sem,seval,aq])
  try simp
 | true =>
  cases c2:dy r.ti with
  | false =>
   rw[c1] at f1;rw[c2] at f2;(simp(disch:=first|decide|omega|(intros;exact rfl)|simp only[aa]) only[M1,Rec.len,Rec.tkL,Rec.dat,Rec.lenL,Rec.fd0,Rec.fd1,Rec.fd2,Rec.at0,Rec.at1,Rec.at2,f1,f2,go_sem,seval,aq])
   try simp
  | true =>
   rw[c1] at f1;rw[c2] at f2;by_cases c3:r.da.length<=64
   ·(simp(disch:=first|decide|omega|(intros;exact rfl)|simp only[aa]) only[M1,Rec.len,Rec.tkL,Rec.dat,Rec.lenL,Rec.fd0,Rec.fd1,Rec.fd2,Rec.at0,Rec.at1,Rec.at2,f1,f2,go_sem,seval,aq])
    try simp[c3]
   ·(simp(disch:=first|decide|omega|(intros;exact rfl)|simp only[aa]) only[M1,Rec.len,Rec.tkL,Rec.dat,Rec.lenL,Rec.fd0,Rec.fd1,Rec.fd2,Rec.at0,Rec.at1,Rec.at2,f1,f2,go_sem,seval,aq])
    try simp[c3]
def bA (r:Rec):List UInt8:=ah r.at_.toNat++ah r.ti.toNat++r.da
structure Fit (r:Rec):Prop where
 a0:0<=r.at_
 a1:r.at_<=1099511627776
 t0:0<=r.ti
 t1:r.ti<=1099511627776
 d:r.da.length<=64
theorem oc {r:Rec}:whyF r=0↔Fit r:=by
 unfold whyF;constructor
 ·intro h;split at h
  ·rename_i c;have c1:=G6 c.1;have c2:=G6 c.2;split at h
   ·exact⟨c1.1,c1.2,c2.1,c2.2,by assumption⟩
   ·cases h
  ·cases h
 ·intro h;have c1:dy r.at_=true:=by simp[dy,h.a0,h.a1]
  have c2:dy r.ti=true:=by simp[dy,h.t0,h.t1]
  rw[if_pos ⟨c1,c2⟩,if_pos h.d]
theorem EU {n:Nat} (h:n<=1099511627776):nd n<=6:=by
 have hp:=fJ n;rcases Nat.lt_or_ge 6 (nd n) with h6|h6
 ·have:=(fh (nd n-1) n).1 (by omega)
  rcases this.2 with h0|h0
  ·omega
  ·have:(128:Nat) ^ 6<=128 ^ (nd n-1):=Nat.pow_le_pow_right (by decide) (by omega)
   have e:(128:Nat) ^ 6=4398046511104:=by decide
   omega
 ·exact h6
theorem GY (r:Rec):(bA r).length=nd r.at_.toNat+nd r.ti.toNat+r.da.length:=by simp[bA,nd,Nat.add_assoc]
theorem Fit.blen {r:Rec} (h:Fit r):2<=(bA r).length∧(bA r).length<=76:=by
 have h1:=EU (n:=r.at_.toNat) (by have:=h.a0;have:=h.a1;omega)
 have h2:=EU (n:=r.ti.toNat) (by have:=h.t0;have:=h.t1;omega)
 have h3:=fJ r.at_.toNat;have h4:=fJ r.ti.toNat;have:=h.d;rw[GY];omega
def putR (r:Rec):V:=if whyF r=0 then .tup [(false,[.d (.s (aK (bA r)))]),(false,[.d (.i .i64 0)])] else .tup [(false,[.d (.s [])]),(false,[.d (.i .i64 (whyF r))])]
theorem HU {n:Int} (h:0<=n) (h1:n<9223372036854775808):call 124 [vi n] []=some (vs (ah n.toNat),[]):=by
 have:=xP n.toNat (by omega)
 rwa [show((n.toNat:Nat):Int)=n by omega] at this
theorem mP {n:Int} (h:0<=n) (h1:n<9223372036854775808):call 111 [vi n] []=some (vs (ah n.toNat),[]):=by
 have:=gY n.toNat (by omega)
 rwa [show((n.toNat:Nat):Int)=n by omega] at this
theorem vL (r:Rec) (hr:r.ok) (hf:Fit r):call 82 [.agg (r.enc.map .d)] []=some (vs (bA r),[]):=by
 apply ai QA rfl;have p1:=mP hf.a0 hr.1.2;have p2:=mP hf.t0 hr.2.1.2;have l1:(ah r.at_.toNat).length<=9:=gP (n:=r.at_.toNat) (by have:=hr.1.2;omega)
 have l2:(ah r.ti.toNat).length<=9:=gP (n:=r.ti.toNat) (by have:=hr.2.1.2;omega)
 have l3:=hf.d;(simp(disch:=first|decide|omega|(intros;exact rfl)|simp only[aa]) only[PJ,Rec.len,Rec.tkL,Rec.dat,Rec.lenL,Rec.fd0,Rec.fd1,Rec.fd2,Rec.at0,Rec.at1,Rec.at2,p1,p2,bA,go_sem,seval,aq])
theorem sN (r:Rec) (hr:r.ok):call 45 [.agg (r.enc.map .d)] []=some (putR r,[]):=by
 apply ai QH rfl;have h:=xn r hr;unfold putR;by_cases c:whyF r=0
 ·have hf:=oc.1 c;have hb:=hf.blen;have p:=gJ (bA r) (by omega)
  unfold xo at p;rw[if_pos (by omega)] at p
  rw[c] at h;have p1:=vL r hr hf;rw[if_pos c];(simp(disch:=first|decide|omega|(intros;exact rfl)|simp only[aa]) only[Oy,Rec.len,Rec.tkL,Rec.dat,Rec.lenL,Rec.fd0,Rec.fd1,Rec.fd2,Rec.at0,Rec.at1,Rec.at2,h,p1,p,go_sem,seval,aq])
 ·rw[if_neg c];(simp(disch:=first|decide|omega|(intros;exact rfl)|simp only[aa]) only[Oy,Rec.len,Rec.tkL,Rec.dat,Rec.lenL,Rec.fd0,Rec.fd1,Rec.fd2,Rec.at0,Rec.at1,Rec.at2,h,go_sem,seval,aq])
theorem uz (s:List UInt8) (a:Nat) (g:Bool) (ha:a<9223372036854775808) (hs:s.length<=9223372036854775807) :
  call 150 [.one (.p 0 0),.one (.p 1 0),.one (.p 2 0)] [.cells [.d (.s s)],.cells [.d (.i .i64 a)],.cells [.d (.b g)]] =
   some (match jx (s.drop a) 0 0 with|some (n,k)=>(vi n,[.cells [.d (.s s)],.cells [.d (.i .i64 ((a+k:Nat):Int))],.cells [.d (.b g)]])|none=>(vi 0,[.cells [.d (.s s)],.cells [.d (.i .i64 0)],.cells [.d (.b false)]])):=by
 apply ai Oe rfl;have hr:=pP s a ha hs;cases h:jx (s.drop a) 0 0 with
 | none =>
  rw[h] at hr;cases g
  ·(simp(disch:=first|decide|omega|(intros;exact rfl)|simp only[aa]) only[El,hr,jY,go_sem,seval,aq])
   try rfl
  ·(simp(disch:=first|decide|omega|(intros;exact rfl)|simp only[aa]) only[El,hr,jY,go_sem,seval,aq])
   try rfl
 | some q =>
  obtain⟨n,k⟩:=q;rw[h] at hr;cases g
  ·(simp(disch:=first|decide|omega|(intros;exact rfl)|simp only[aa]) only[El,hr,jY,go_sem,seval,aq])
   try rfl
  ·(simp(disch:=first|decide|omega|(intros;exact rfl)|simp only[aa]) only[El,hr,jY,go_sem,seval,aq])
   try rfl
def gD (s:List UInt8):Rec × Int:=match jx s 0 0 with
 | none=>(⟨0,0,[]⟩,3)
 | some (n,k)=>match jx (s.drop k) 0 0 with
  | none=>(⟨0,0,[]⟩,3)
  | some (m,j)=>if whyF ⟨n,m,s.drop (k+j)⟩=0 then(⟨n,m,s.drop (k+j)⟩,0) else(⟨0,0,[]⟩,whyF ⟨n,m,s.drop (k+j)⟩)
def Dt (r:Rec × Int):V:=.tup [(true,r.1.enc.map .d),(false,[.d (.i .i64 r.2)])]
theorem lh {φ:b7} {f:FuncId} {args args':List V} {H H' H1 H2:Hp} {ids:List Nat} {r r':V} (hi:aN H (args.flatMap V.refs)=ids) (ha:args.map (V.ren (aL ids))=args') (hH:ax H ids=H')
  (hr:φ f args' H'=some (r,H1)) (he:(r.ren (fun j=>if j<ids.length then ids[j]? else some (H.length+(j-ids.length))),bU H ids ((H1.take ids.length).map (Box.ren (fun j=>if j<ids.length then ids[j]? else some (H.length+(j-ids.length)))))++(H1.drop ids.length).map (Box.ren (fun j=>if j<ids.length then ids[j]? else some (H.length+(j-ids.length)))))=(r',H2)) :
  az φ f args H=some (r',H2):=by
 subst hi;subst ha;subst hH;simp only[az,hr];rw[he]
theorem xL {l:List UInt8} {n k:Nat} (h:jx l 0 0=some (n,k)):n<9223372036854775808:=by
 obtain⟨h1,h2,h3,h4⟩:=fk h;have e:nd n=k:=by unfold nd;rw[<- h4,List.length_take];omega
 obtain⟨m,hm⟩:∃ m,nd n=m+1:=⟨nd n-1,by have:=fJ n;omega⟩
 have:=((fh m n).1 hm).1;have h9:(128:Nat) ^ (m+1)<=128 ^ 9:=Nat.pow_le_pow_right (by decide) (by omega)
 have e9:(128:Nat) ^ 9=9223372036854775808:=by decide
 omega
set_option maxRecDepth 8000 in
theorem Hl (s:List UInt8) (hs:s.length<=1000000):call 145 [vs s] []=some (Dt (gD s),[]):=by
 apply ai O9 rfl;have g1:=uz s 0 true (by decide) (by omega)
 unfold gD Dt;cases h:jx s 0 0 with
 | none =>
  rw[List.drop_zero,h] at g1;have c1:az call 150 [.one (.p 0 0),.one (.p 2 0),.one (.p 3 0)] [.cells [.d (.s s)],.cells [.d (.i .i64 0),.d (.i .i64 0),.d (.s [])],.cells [.d (.i .i64 0)],.cells [.d (.b true)]]=some (vi 0,[.cells [.d (.s s)],.cells [.d (.i .i64 0),.d (.i .i64 0),.d (.s [])],.cells [.d (.i .i64 0)],.cells [.d (.b false)]]) :=
   lh rfl rfl rfl g1 rfl
  (simp(disch:=first|decide|omega|(intros;exact rfl)|simp only[aa]) only[Gp,c1,List.mapM_cons,List.mapM_nil,Option.pure_def,Option.bind_eq_bind,Option.bind_some,List.map_cons,List.map_nil,List.cons_append,List.nil_append,go_sem,seval,aq])
  try rfl
 | some q =>
  obtain⟨n,k⟩:=q;rw[List.drop_zero,h] at g1;obtain⟨b1,b2,b3,b4⟩:=fk h;have hn:=xL h;simp only[Nat.zero_add] at g1;have c1:az call 150 [.one (.p 0 0),.one (.p 2 0),.one (.p 3 0)] [.cells [.d (.s s)],.cells [.d (.i .i64 0),.d (.i .i64 0),.d (.s [])],.cells [.d (.i .i64 0)],.cells [.d (.b true)]]=some (vi n,[.cells [.d (.s s)],.cells [.d (.i .i64 0),.d (.i .i64 0),.d (.s [])],.cells [.d (.i .i64 k)],.cells [.d (.b true)]]) :=
   lh rfl rfl rfl g1 rfl
  have g2:=uz s k true (by omega) (by omega)
  dsimp only
  cases h2:jx (s.drop k) 0 0 with
  | none =>
   rw[h2] at g2;have c2:az call 150 [.one (.p 0 0),.one (.p 2 0),.one (.p 3 0)] [.cells [.d (.s s)],.cells [.d (.i .i64 0),.d (.i .i64 0),.d (.s [])],.cells [.d (.i .i64 k)],.cells [.d (.b true)],.cells [.d (.i .i64 n),.d (.i .i64 0),.d (.s [])]]=some (vi 0,[.cells [.d (.s s)],.cells [.d (.i .i64 0),.d (.i .i64 0),.d (.s [])],.cells [.d (.i .i64 0)],.cells [.d (.b false)],.cells [.d (.i .i64 n),.d (.i .i64 0),.d (.s [])]]) :=
    lh rfl rfl rfl g2 rfl
   (simp(disch:=first|decide|omega|(intros;exact rfl)|simp only[aa]) only[Gp,c1,c2,List.mapM_cons,List.mapM_nil,Option.pure_def,Option.bind_eq_bind,Option.bind_some,List.map_cons,List.map_nil,List.cons_append,List.nil_append,go_sem,seval,aq])
   try rfl
  | some q2 =>
   obtain⟨m,j⟩:=q2;rw[h2] at g2;obtain⟨d1,d2,d3,d4⟩:=fk h2;have hm:=xL h2;have d2':k+j<=s.length:=by rw[List.length_drop] at d2;omega
   have c2:az call 150 [.one (.p 0 0),.one (.p 2 0),.one (.p 3 0)] [.cells [.d (.s s)],.cells [.d (.i .i64 0),.d (.i .i64 0),.d (.s [])],.cells [.d (.i .i64 k)],.cells [.d (.b true)],.cells [.d (.i .i64 n),.d (.i .i64 0),.d (.s [])]]=some (vi m,[.cells [.d (.s s)],.cells [.d (.i .i64 0),.d (.i .i64 0),.d (.s [])],.cells [.d (.i .i64 ((k+j:Nat):Int))],.cells [.d (.b true)],.cells [.d (.i .i64 n),.d (.i .i64 0),.d (.s [])]]) :=
    lh rfl rfl rfl g2 rfl
   have ck:call 151 [.agg [.d (.i .i64 n),.d (.i .i64 m),.d (.s (s.drop (k+j)))]] []=some (vi (whyF ⟨n,m,s.drop (k+j)⟩),[]):=zX ⟨n,m,s.drop (k+j)⟩ ⟨⟨by simp only[];omega,by simp only[];omega⟩,⟨by simp only[];omega,by simp only[];omega⟩,by simp;omega⟩
   dsimp only
   by_cases c:whyF ⟨n,m,s.drop (k+j)⟩=0
   ·rw[c] at ck;rw[if_pos c];(simp(disch:=first|decide|omega|(intros;exact rfl)|simp only[aa]) only[Gp,c1,c2,ck,List.mapM_cons,List.mapM_nil,Option.pure_def,Option.bind_eq_bind,Option.bind_some,List.map_cons,List.map_nil,List.cons_append,List.nil_append,go_sem,seval,aq])
    try rfl
   ·rw[if_neg c];(simp(disch:=first|decide|omega|(intros;exact rfl)|simp only[aa]) only[Gp,c1,c2,ck,c,List.mapM_cons,List.mapM_nil,Option.pure_def,Option.bind_eq_bind,Option.bind_some,List.map_cons,List.map_nil,List.cons_append,List.nil_append,go_sem,seval,aq])
    try rfl
set_option maxRecDepth 8000 in
theorem yQ (s:List UInt8) (hs:s.length<=1000000):call 138 [vs s] []=some (Dt (gD s),[]):=by
 apply ai O2 rfl;have g1:=gu s 0 (by decide) (by omega)
 simp only[List.drop_zero,Int.natCast_zero] at g1;unfold gD Dt;cases h:jx s 0 0 with
 | none =>
  rw[h] at g1;(simp(disch:=first|decide|omega|(intros;exact rfl)|simp only[aa]) only[E3,g1,jY,go_sem,seval,aq])
  try rfl
 | some q =>
  obtain⟨n,k⟩:=q;rw[h] at g1;simp only[jY,Nat.zero_add] at g1;obtain⟨b1,b2,b3,b4⟩:=fk h;have hn:=xL h;have g2:=gu s k (by omega) (by omega)
  dsimp only
  cases h2:jx (s.drop k) 0 0 with
  | none =>
   rw[h2] at g2;simp only[jY] at g2;(simp(disch:=first|decide|omega|(intros;exact rfl)|simp only[aa]) only[E3,g1,g2,go_sem,seval,aq])
   try rfl
  | some q2 =>
   obtain⟨m,j⟩:=q2;rw[h2] at g2;simp only[jY] at g2;obtain⟨d1,d2,d3,d4⟩:=fk h2;have hm:=xL h2;have d2':k+j<=s.length:=by rw[List.length_drop] at d2;omega
   have ck:call 80 [.agg [.d (.i .i64 n),.d (.i .i64 m),.d (.s (s.drop (k+j)))]] []=some (vi (whyF ⟨n,m,s.drop (k+j)⟩),[]):=xn ⟨n,m,s.drop (k+j)⟩ ⟨⟨by simp only[];omega,by simp only[];omega⟩,⟨by simp only[];omega,by simp only[];omega⟩,by simp;omega⟩
   dsimp only
   by_cases c:whyF ⟨n,m,s.drop (k+j)⟩=0
   ·rw[c] at ck;rw[if_pos c];(simp(disch:=first|decide|omega|(intros;exact rfl)|simp only[aa]) only[E3,g1,g2,ck,go_sem,seval,aq])
    try rfl
   ·rw[if_neg c];(simp(disch:=first|decide|omega|(intros;exact rfl)|simp only[aa]) only[E3,g1,g2,ck,c,go_sem,seval,aq])
    try rfl
def AZ (r:Rec):List UInt8:=aK (bA r)
def rowS (l:List Rec):List UInt8:=l.flatMap AZ
theorem D8 (l:List Rec) (i:Nat) (h:i<l.length):rowS (l.take (i+1))=rowS (l.take i)++AZ l[i]:=by
 unfold rowS;rw[fc l i h,List.flatMap_append];simp
theorem nS (s:List UInt8) (a:Nat):(cr s a).1.length<=s.length:=by
 unfold cr;repeat' split
 all_goals (try simp)
 all_goals omega
theorem Db {r:Rec} (h:Fit r):gD (bA r)=(r,0):=by
 have h0:=h.a0;have h1:=h.a1;have h2:=h.t0;have h3:=h.t1;have ea:((r.at_.toNat:Nat):Int)=r.at_:=by omega
 have et:((r.ti.toNat:Nat):Int)=r.ti:=by omega
 have r1:jx (bA r) 0 0=some (r.at_.toNat,nd r.at_.toNat):=by
  unfold bA;rw[List.append_assoc];exact jR _ _ (by omega)
 have d1:(bA r).drop (nd r.at_.toNat)=ah r.ti.toNat++r.da:=by
  unfold bA nd;rw[List.append_assoc,List.drop_left]
 have r2:jx (ah r.ti.toNat++r.da) 0 0=some (r.ti.toNat,nd r.ti.toNat):=jR _ _ (by omega)
 have d2:(bA r).drop (nd r.at_.toNat+nd r.ti.toNat)=r.da:=by
  rw[<- List.drop_drop,d1];unfold nd;rw[List.drop_left]
 have er:(⟨((r.at_.toNat:Nat):Int),((r.ti.toNat:Nat):Int),r.da⟩:Rec)=r:=by rw[ea,et]
 unfold gD;rw[r1];simp only[];rw[d1,r2];simp only[];rw[d2,er,if_pos (oc.2 h)]
def bg:Nat->List UInt8->Nat->Int->List (Rec × Nat) × Nat × Int
 | 0,_,a,_=>([],a,0)
 | f+1,s,a,b=>if s.length<=a then([],a,0) else
  match cr s a with
  | (t,n,e)=>if e=0 then(if(gD t).2=0 then(if(gD t).1.at_=b then(((gD t).1,a)::(bg f s n (b+1)).1,(bg f s n (b+1)).2) else([],a,3)) else([],a,(gD t).2)) else([],a,e)
theorem dF {s t:List UInt8} {a n f:Nat} {b:Int} (ha:a<s.length) (h:cr s a=(t,n,0)) (hg:(gD t).2=0) (hb:(gD t).1.at_=b):bg (f+1) s a b=(((gD t).1,a)::(bg f s n (b+1)).1,(bg f s n (b+1)).2):=by
 simp only[bg];rw[if_neg (by omega),h];simp only[];rw[if_pos trivial,if_pos hg,if_pos hb]
theorem fS {s t:List UInt8} {a n f:Nat} {b:Int} (ha:a<s.length) (h:cr s a=(t,n,0)) (hg:(gD t).2=0) (hb:(gD t).1.at_≠b):bg (f+1) s a b=([],a,3):=by
 simp only[bg];rw[if_neg (by omega),h];simp only[];rw[if_pos trivial,if_pos hg,if_neg hb]
theorem ga {s t:List UInt8} {a n f:Nat} {b:Int} (ha:a<s.length) (h:cr s a=(t,n,0)) (hg:(gD t).2≠0):bg (f+1) s a b=([],a,(gD t).2):=by
 simp only[bg];rw[if_neg (by omega),h];simp only[];rw[if_pos trivial,if_neg hg]
theorem dG {s t:List UInt8} {a n f:Nat} {e b:Int} (ha:a<s.length) (h:cr s a=(t,n,e)) (he:e≠0):bg (f+1) s a b=([],a,e):=by
 simp only[bg];rw[if_neg (by omega),h];simp only[];rw[if_neg he]
theorem dz {s:List UInt8} {a f:Nat} {b:Int} (ha:s.length<=a):bg f s a b=([],a,0):=by
 cases f with
 | zero=>rfl
 | succ f=>simp only[bg];rw[if_pos ha]
theorem oa {s:List UInt8}:∀ (g g' b:Nat) (o:Int),b<=s.length->s.length<b+g->s.length<b+g'->bg g s b o=bg g' s b o:=by
 intro g;induction g with
 | zero=>intro g' b o hb h1 h2;omega
 | succ g ih =>
  intro g' b o hb h1 h2;obtain⟨g2,rfl⟩:∃ g2,g'=g2+1:=⟨g'-1,by omega⟩
  rcases Nat.lt_or_ge b s.length with hbl|hbl
  ·obtain⟨⟨t',n',e'⟩,hx'⟩:∃ x,cr s b=x:=⟨_,rfl⟩;by_cases he':e'=0
   ·subst he';have hok':=oi hx';by_cases hg:(gD t').2=0
    ·by_cases ho:(gD t').1.at_=o
     ·rw[dF hbl hx' hg ho,dF hbl hx' hg ho,ih g2 n' _ hok'.2 (by omega) (by omega)]
     ·rw[fS hbl hx' hg ho,fS hbl hx' hg ho]
    ·rw[ga hbl hx' hg,ga hbl hx' hg]
   ·rw[dG hbl hx' he',dG hbl hx' he']
  ·rw[dz hbl,dz hbl]
set_option maxRecDepth 8000 in
theorem DC (n:Int) (hn : -9223372036854775808<=n∧n<9223372036854775808):call 136 [vi n] []=some (vb (dy n),[]):=by
 apply ai OE rfl;unfold dy;by_cases c:0<=n
 ·have e:IntKind.u64.wrap n=n:=oF ⟨c,by omega⟩
  by_cases c2:n<=1099511627776
  ·(simp(disch:=first|decide|omega|(intros;exact rfl)|simp only[aa]) only[H8,e,c,c2,go_sem,seval,aq])
  ·(simp(disch:=first|decide|omega|(intros;exact rfl)|simp only[aa]) only[H8,e,c,c2,go_sem,seval,aq])
 ·have e:IntKind.u64.wrap n=n+18446744073709551616:=by
   simp[IntKind.wrap,IntKind.bits,IntKind.signed];omega
  (simp(disch:=first|decide|omega|(intros;exact rfl)|simp only[aa]) only[H8,e,c,Bool.false_and,go_sem,seval,aq])
theorem wq (xs:List L):call 137 [.one (.p 0 0)] [.cells xs]=some (.one (.f 144 [1]),[.cells xs,.cells [.p 0 0]]):=by
 apply ai O1 rfl;(simp(disch:=first|decide|omega|(intros;exact rfl)|simp only[aa]) only[Nu,List.mapM_cons,List.mapM_nil,Option.pure_def,Option.bind_eq_bind,Option.bind_some,go_sem,seval,aq])
 simp[trim,V.refs,L.refs]
def ir (r:List (Rec × Nat) × Nat × Int):V:=.tup [(false,[.d (.l (r.1.map fun x=>x.1.enc))]),(false,[.d (.i .i64 ((r.2.1:Nat):Int))]),(false,[.d (.i .i64 r.2.2)])]
def cU (s:List UInt8) (b:Int):List (Rec × Nat) × Nat × Int:=if dy b=true then bg (s.length+1) s 0 b else([],0,1)
def qM (l:List (Rec × Nat)):L:=match l with|[]=>.ns|_=>.sl 4 3 0 l.length
def qS (l:List (Rec × Nat)):Hp:=match l with|[]=>[]|_=>[.arr 3 (l.map fun x=>x.1.enc) 0]
set_option maxRecDepth 8000 in
theorem uI (s:List UInt8) (hs:s.length<=1000000) (b:Int) (hb : -9223372036854775808<=b∧b<9223372036854775808):call 107 [vs s,vi b] []=some (ir (cU s b),[]):=by
 apply Lv OK rfl;have hg:=DC b hb;unfold cU ir;cases h:dy b with
 | false =>
  rw[h] at hg;(simp(disch:=first|decide|omega|(intros;exact rfl)|simp only[aa]) only[KA,hg,go_sem,seval,aq,cw,A.kind,A.xs,aP,A.isN,tP])
  try simp
 | true =>
  rw[h] at hg;have c1:az call 137 [.one (.p 0 0)] [.cells [.d (.s s),.d (.i .i64 0),.d (.i .i64 b),.d (.i .i64 0)],.cells [.ns]]=some (.one (.f 144 [2]),[.cells [.d (.s s),.d (.i .i64 0),.d (.i .i64 b),.d (.i .i64 0)],.cells [.ns],.cells [.p 0 0]]) :=
   aU rfl rfl rfl (wq _) rfl
  (simp(disch:=first|decide|omega|(intros;exact rfl)|simp only[aa]) only[KA,hg,c1,go_sem,seval,aq,cw,A.kind,A.xs,aP,A.isN,tP])
  rw[Ku (gf:=144) (caps:=[2]) (af:=Ky) (by rfl) Pi rfl]
  generalize hψ:fU call _ _ _ _=ψ;(simp(disch:=first|decide|omega|(intros;exact rfl)|simp only[aa]) only[Ky,go_sem,seval,aq,cw,A.kind,A.xs,aP,A.isN,i0,↓cK,↓cm])
  have hr:=fun(v:V) (H:Hp)=>(congrFun (congrFun hψ.symm [v]) H).trans (BT _ _ _ _ _ [v] H rfl)
  clear hψ;have hb2:0<=b∧b<=1099511627776:=by simpa[dy] using h
  refine CK (N:=82) (m:=4) (σ:=Nat × Int × List (Rec × Nat)) (fun t=>s.length-t.1) (fun t=>t.1<=s.length∧t.2.2.length<=t.1∧t.2.1=b+t.2.2.length) (fun t=>[V.one (.y 3 0),V.one (.p 2 0)])
   (fun t=>[.cells [.d (.s s),.d (.i .i64 t.1),.d (.i .i64 t.2.1),.d (.i .i64 0)],.cells [qM t.2.2],.cells [.p 0 0],.dead]++qS t.2.2)
   (fun t=>(ir (t.2.2++(bg (s.length+1-t.1) s t.1 t.2.1).1,(bg (s.length+1-t.1) s t.1 t.2.1).2),([]:Hp))) ?_ (0,b,[]) ⟨Nat.zero_le _,by simp,by simp⟩ _ _ cG
  rintro⟨a,nx,out⟩ ⟨ha,hout,hnx⟩ R hR;simp only at ha hout hnx;rcases Nat.lt_or_ge a s.length with h|h
  ·obtain⟨f,hf⟩:∃ f,s.length+1-a=f+1:=⟨s.length-a,by omega⟩
   have hn:=uQ s a (by omega) (by omega)
   have htl:=nS s a;obtain⟨⟨t,n,e⟩,hx⟩:∃ x,cr s a=x:=⟨_,rfl⟩;rw[hx] at hn htl;by_cases he:e=0
   ·subst he;have hok:=oi hx;have hg:=Hl t (by simp only[] at htl;omega)
    have hst := @dF s t a n f nx h hx;have hof := @fS s t a n f nx h hx;have hbd := @ga s t a n f nx h hx;obtain⟨⟨r,g⟩,hq⟩:∃ x,gD t=x:=⟨_,rfl⟩;rw[hq] at hg hst hof hbd;simp only[Dt] at hg hst hbd hof;by_cases hz:g=0
    ·subst hz;by_cases ho:r.at_=nx
     ·simp only[hf,hst rfl ho];subst ho;have e3:bg f s n (r.at_+1)=bg (s.length+1-n) s n (r.at_+1):=oa _ _ n _ hok.2 (by omega) (by omega)
      rcases out with _|⟨x,out⟩
      ·simp only[List.length_nil] at hnx hout;(simp(disch:=first|decide|omega|(intros;exact rfl)|simp only[aa]) only[jl,hn,cW,hg,Rec.len,Rec.tk,Rec.tkL,Rec.dat,Rec.lenL,Rec.enc,List.map_cons,List.map_nil,List.getElem?_cons_zero,qM,qS,List.append_nil,go_sem,seval,aq,cw,A.kind,A.xs,aP,A.isN,i0,↓cK,↓cm])
       rw[hr];(simp(disch:=first|decide|omega|(intros;exact rfl)|simp only[aa]) only[i0,go_sem,seval,aq,cw,A.kind,A.xs,aP,A.isN])
       (simp(disch:=first|decide|omega|(intros;exact rfl)|simp only[aa]) only[go_sem,seval,aq,cw,A.kind,A.xs,aP,A.isN,i0,↓cK,↓cm])
       have hR':=hR (n,r.at_+1,[(r,a)]) (by simp only[];omega) ⟨hok.2,by simp;omega,by simp;omega⟩
       simp only[List.singleton_append,<- e3] at hR';exact hR' _ _ cG
      ·simp only[List.length_cons] at hnx hout;(simp(disch:=first|decide|omega|(intros;exact rfl)|simp only[aa]) only[jl,hn,cW,hg,Rec.len,Rec.tk,Rec.tkL,Rec.dat,Rec.lenL,Rec.enc,List.map_cons,List.map_nil,List.getElem?_cons_zero,qM,qS,List.append_nil,go_sem,seval,aq,cw,A.kind,A.xs,aP,A.isN,i0,↓cK,↓cm])
       rw[hr];(simp(disch:=first|decide|omega|(intros;exact rfl)|simp only[aa]) only[i0,go_sem,seval,aq,cw,A.kind,A.xs,aP,A.isN])
       (simp(disch:=first|decide|omega|(intros;exact rfl)|simp only[aa]) only[go_sem,seval,aq,cw,A.kind,A.xs,aP,A.isN,i0,↓cK,↓cm])
       have hR':=hR (n,r.at_+1,(x::out)++[(r,a)]) (by simp only[];omega) ⟨hok.2,by simp;omega,by simp;omega⟩
       simp only[List.append_assoc,List.singleton_append,<- e3,qM,qS,List.cons_append,List.length_cons,List.length_append,List.length_nil,Nat.zero_add,List.map_cons,List.map_append,List.map_nil,Rec.enc] at hR';exact hR' _ _ cG
     ·simp only[hf,hof rfl ho];rcases out with _|⟨x,out⟩
      ·(simp(disch:=first|decide|omega|(intros;exact rfl)|simp only[aa]) only[jl,hn,cW,hg,Rec.len,Rec.tk,Rec.tkL,Rec.dat,Rec.lenL,Rec.enc,List.map_cons,List.map_nil,List.getElem?_cons_zero,qM,qS,List.append_nil,ho,go_sem,seval,aq,cw,A.kind,A.xs,aP,A.isN,i0,↓cK,↓cm])
       rw[pR (q:=3) (k:=0) (by decide) rfl]
       (simp(disch:=first|decide|omega|(intros;exact rfl)|simp only[aa]) only[i0,Rec.len,Rec.tk,Rec.tkL,Rec.dat,Rec.lenL,Rec.enc,List.map_cons,List.map_nil,go_sem,seval,aq,cw,A.kind,A.xs,aP,A.isN,tP])
       simp[ir,Rec.enc]
      ·simp only[List.length_cons] at hnx hout;(simp(disch:=first|decide|omega|(intros;exact rfl)|simp only[aa]) only[jl,hn,cW,hg,Rec.len,Rec.tk,Rec.tkL,Rec.dat,Rec.lenL,Rec.enc,List.map_cons,List.map_nil,List.getElem?_cons_zero,qM,qS,List.append_nil,ho,go_sem,seval,aq,cw,A.kind,A.xs,aP,A.isN,i0,↓cK,↓cm])
       rw[pR (q:=3) (k:=0) (by decide) rfl]
       (simp(disch:=first|decide|omega|(intros;exact rfl)|simp only[aa]) only[i0,Rec.len,Rec.tk,Rec.tkL,Rec.dat,Rec.lenL,Rec.enc,List.map_cons,List.map_nil,go_sem,seval,aq,cw,A.kind,A.xs,aP,A.isN,tP])
       simp[ir,Rec.enc]
    ·simp only[hf,hbd hz];rcases out with _|⟨x,out⟩
     ·(simp(disch:=first|decide|omega|(intros;exact rfl)|simp only[aa]) only[jl,hn,cW,hg,Rec.len,Rec.tk,Rec.tkL,Rec.dat,Rec.lenL,Rec.enc,List.map_cons,List.map_nil,List.getElem?_cons_zero,qM,qS,List.append_nil,hz,go_sem,seval,aq,cw,A.kind,A.xs,aP,A.isN,i0,↓cK,↓cm])
      rw[pR (q:=3) (k:=0) (by decide) rfl]
      (simp(disch:=first|decide|omega|(intros;exact rfl)|simp only[aa]) only[i0,Rec.len,Rec.tk,Rec.tkL,Rec.dat,Rec.lenL,Rec.enc,List.map_cons,List.map_nil,go_sem,seval,aq,cw,A.kind,A.xs,aP,A.isN,tP])
      simp[ir,Rec.enc]
     ·simp only[List.length_cons] at hnx hout;(simp(disch:=first|decide|omega|(intros;exact rfl)|simp only[aa]) only[jl,hn,cW,hg,Rec.len,Rec.tk,Rec.tkL,Rec.dat,Rec.lenL,Rec.enc,List.map_cons,List.map_nil,List.getElem?_cons_zero,qM,qS,List.append_nil,hz,go_sem,seval,aq,cw,A.kind,A.xs,aP,A.isN,i0,↓cK,↓cm])
      rw[pR (q:=3) (k:=0) (by decide) rfl]
      (simp(disch:=first|decide|omega|(intros;exact rfl)|simp only[aa]) only[i0,Rec.len,Rec.tk,Rec.tkL,Rec.dat,Rec.lenL,Rec.enc,List.map_cons,List.map_nil,go_sem,seval,aq,cw,A.kind,A.xs,aP,A.isN,tP])
      simp[ir,Rec.enc]
   ·simp only[hf,dG h hx he];rcases out with _|⟨x,out⟩
    ·(simp(disch:=first|decide|omega|(intros;exact rfl)|simp only[aa]) only[jl,hn,cW,hg,Rec.len,Rec.tk,Rec.tkL,Rec.dat,Rec.lenL,Rec.enc,List.map_cons,List.map_nil,List.getElem?_cons_zero,qM,qS,List.append_nil,he,go_sem,seval,aq,cw,A.kind,A.xs,aP,A.isN,i0,↓cK,↓cm])
     rw[pR (q:=3) (k:=0) (by decide) rfl]
     (simp(disch:=first|decide|omega|(intros;exact rfl)|simp only[aa]) only[i0,Rec.len,Rec.tk,Rec.tkL,Rec.dat,Rec.lenL,Rec.enc,List.map_cons,List.map_nil,go_sem,seval,aq,cw,A.kind,A.xs,aP,A.isN,tP])
     simp[ir,Rec.enc]
    ·simp only[List.length_cons] at hnx hout;(simp(disch:=first|decide|omega|(intros;exact rfl)|simp only[aa]) only[jl,hn,cW,hg,Rec.len,Rec.tk,Rec.tkL,Rec.dat,Rec.lenL,Rec.enc,List.map_cons,List.map_nil,List.getElem?_cons_zero,qM,qS,List.append_nil,he,go_sem,seval,aq,cw,A.kind,A.xs,aP,A.isN,i0,↓cK,↓cm])
     rw[pR (q:=3) (k:=0) (by decide) rfl]
     (simp(disch:=first|decide|omega|(intros;exact rfl)|simp only[aa]) only[i0,Rec.len,Rec.tk,Rec.tkL,Rec.dat,Rec.lenL,Rec.enc,List.map_cons,List.map_nil,go_sem,seval,aq,cw,A.kind,A.xs,aP,A.isN,tP])
     simp[ir,Rec.enc]
  ·rw[dz h];have ea:a=s.length:=by omega
   rcases out with _|⟨x,out⟩
   ·(simp(disch:=first|decide|omega|(intros;exact rfl)|simp only[aa]) only[jl,Rec.len,Rec.tk,Rec.tkL,Rec.dat,Rec.lenL,Rec.enc,List.map_cons,List.map_nil,List.getElem?_cons_zero,qM,qS,List.append_nil,ea,go_sem,seval,aq,cw,A.kind,A.xs,aP,A.isN,i0,↓cK,↓cm])
    rw[Hn (q:=3) (k:=0) (by decide) rfl]
    (simp(disch:=first|decide|omega|(intros;exact rfl)|simp only[aa]) only[i0,Rec.len,Rec.tk,Rec.tkL,Rec.dat,Rec.lenL,Rec.enc,List.map_cons,List.map_nil,go_sem,seval,aq,cw,A.kind,A.xs,aP,A.isN,tP])
    simp[ir,Rec.enc]
   ·simp only[List.length_cons] at hnx hout;(simp(disch:=first|decide|omega|(intros;exact rfl)|simp only[aa]) only[jl,Rec.len,Rec.tk,Rec.tkL,Rec.dat,Rec.lenL,Rec.enc,List.map_cons,List.map_nil,List.getElem?_cons_zero,qM,qS,List.append_nil,ea,go_sem,seval,aq,cw,A.kind,A.xs,aP,A.isN,i0,↓cK,↓cm])
    rw[Hn (q:=3) (k:=0) (by decide) rfl]
    (simp(disch:=first|decide|omega|(intros;exact rfl)|simp only[aa]) only[i0,Rec.len,Rec.tk,Rec.tkL,Rec.dat,Rec.lenL,Rec.enc,List.map_cons,List.map_nil,go_sem,seval,aq,cw,A.kind,A.xs,aP,A.isN,tP])
    simp[ir,Rec.enc]
def KG (x:Rec × Nat):List D:=[.i .i64 x.2]
def iJ (r:List (Rec × Nat) × Nat × Int):V:=.tup [(false,[.d (.l (r.1.map fun x=>x.1.enc))]),(false,[.d (.l (r.1.map KG))]),(false,[.d (.i .i64 ((r.2.1:Nat):Int))]),(false,[.d (.i .i64 r.2.2)])]
set_option maxRecDepth 8000 in
theorem yN (s:List UInt8) (hs:s.length<=1000000) (b:Int) (hb : -9223372036854775808<=b∧b<9223372036854775808):call 114 [vs s,vi b] []=some (iJ (cU s b),[]):=by
 apply ai Ou rfl;unfold cU;cases ho:dy b with
 | false =>
  by_cases c0:b<0
  ·(simp(disch:=first|decide|omega|(intros;exact rfl)|simp only[aa]) only[IY,c0,go_sem,seval,aq])
   simp[iJ]
  ·have c1:¬ b<=1099511627776:=by simpa[dy,Int.not_lt.1 c0] using ho
   (simp(disch:=first|decide|omega|(intros;exact rfl)|simp only[aa]) only[IY,c0,c1,go_sem,seval,aq])
   simp[iJ]
 | true =>
  have hb2:0<=b∧b<=1099511627776:=by simpa[dy] using ho
  (simp(disch:=first|decide|omega|(intros;exact rfl)|simp only[aa]) only[IY,go_sem,seval,aq])
  refine jn (σ:=Nat × Int × List (Rec × Nat)) (fun t=>s.length-t.1) (fun t=>t.1<=s.length∧t.2.2.length<=t.1∧t.2.1=b+t.2.2.length) (fun t=>[vs s,vi b,.one (.sl 0 3 0 t.2.2.length),.one (.sl 1 1 0 t.2.2.length),vi t.1]) (fun t=>[.arr 3 (t.2.2.map fun x=>x.1.enc) 0,.arr 1 (t.2.2.map KG) 0])
   (fun t=>(iJ (t.2.2++(bg (s.length+1-t.1) s t.1 t.2.1).1,(bg (s.length+1-t.1) s t.1 t.2.1).2),([]:Hp))) ?_ (0,b,[]) ⟨Nat.zero_le _,by simp,by simp⟩ _ _ (at_head2 (by decide) (by simp only[List.map_cons,List.map_nil,go_sem,seval];exact rfl) (by simp[aN,aD,ay,aF,ax,V.ren,L.ren,Box.ren,V.refs,L.refs,Box.refs,true_and]) (by simp[aN,aD,ay,aF,ax,V.ren,L.ren,Box.ren,V.refs,L.refs,Box.refs,true_and]))
  rintro⟨a,nx,out⟩ ⟨ha,hout,hnx⟩ R hR;simp only at ha hout hnx;rcases Nat.lt_or_ge a s.length with h|h
  ·obtain⟨f,hf⟩:∃ f,s.length+1-a=f+1:=⟨s.length-a,by omega⟩
   have hn:=wj s a (by omega) (by omega)
   have htl:=nS s a;obtain⟨⟨t,n,e⟩,hx⟩:∃ x,cr s a=x:=⟨_,rfl⟩;rw[hx] at hn htl;by_cases he:e=0
   ·subst he;have hok:=oi hx;have hg:=yQ t (by simp only[] at htl;omega)
    have hst := @dF s t a n f nx h hx;have hof := @fS s t a n f nx h hx;have hbd := @ga s t a n f nx h hx;obtain⟨⟨r,g⟩,hq⟩:∃ x,gD t=x:=⟨_,rfl⟩;rw[hq] at hg hst hof hbd;simp only[Dt] at hg hst hof hbd;by_cases hz:g=0
    ·subst hz;by_cases ho:r.at_=nx
     ·simp only[hf,hst rfl ho];have e3:bg f s n (nx+1)=bg (s.length+1-n) s n (nx+1):=oa _ _ n _ hok.2 (by omega) (by omega)
      have hm:List.map (fun x:Rec × Nat=>x.1.enc) out++[r.enc]=List.map (fun x=>x.1.enc) (out++[(r,a)]):=by simp
      have hm2:List.map KG out++[[D.i IntKind.i64 a]]=List.map KG (out++[(r,a)]):=by simp[KG]
      have fd:(r.enc.map L.d)[0]?=some (.d (.i .i64 nx)):=by rw[Rec.fd0,ho]
      (simp(disch:=first|decide|omega|(intros;exact rfl)|simp only[aa]) only[pj,hn,cW,hg,Rec.len,Rec.tk,Rec.tkL,Rec.dat,Rec.lenL,fd,<- hnx,go_sem,seval,aq])
      have hR':=hR (n,nx+1,out++[(r,a)]) (by simp only[];omega) ⟨hok.2,by simp;omega,by simp;omega⟩
      simp only[List.append_assoc,List.singleton_append,List.length_append,List.length_cons,List.length_nil,Nat.zero_add,Int.natCast_add,Int.natCast_one,<- Int.add_assoc,<- e3] at hR';exact hR' _ _ (at_head2 (by decide) (by simp only[List.map_cons,List.map_nil,go_sem,seval];exact rfl) (by simp[aN,aD,ay,aF,ax,V.ren,L.ren,Box.ren,V.refs,L.refs,Box.refs,Rec.rfs,Rec.rn,KG]) (by simp[aN,aD,ay,aF,ax,V.ren,L.ren,Box.ren,V.refs,L.refs,Box.refs,Rec.rfs,Rec.rn,KG]))
     ·simp only[hf,hof rfl ho];(simp(disch:=first|decide|omega|(intros;exact rfl)|simp only[aa]) only[pj,hn,cW,hg,iJ,Rec.len,Rec.tk,Rec.tkL,Rec.dat,Rec.lenL,Rec.fd0,ho,<- hnx,go_sem,seval,aq])
      try simp
    ·simp only[hf,hbd hz];(simp(disch:=first|decide|omega|(intros;exact rfl)|simp only[aa]) only[pj,hn,cW,hg,iJ,Rec.len,Rec.tk,Rec.tkL,Rec.dat,Rec.lenL,go_sem,seval,aq])
     try simp
   ·simp only[hf,dG h hx he];(simp(disch:=first|decide|omega|(intros;exact rfl)|simp only[aa]) only[pj,hn,cW,iJ,go_sem,seval,aq])
    try simp
  ·have hal:a=s.length:=by omega
   subst hal;simp only[dz (Nat.le_refl _)];(simp(disch:=first|decide|omega|(intros;exact rfl)|simp only[aa]) only[pj,iJ,go_sem,seval,aq])
   try simp
theorem vK (s:List UInt8) (hs:s.length<=1000000) (b:Int) (hb : -9223372036854775808<=b∧b<9223372036854775808):call 67 [vs s,vi b] []=some (ir (cU s b),[]):=by
 apply ai QY rfl;have hp:=yN s hs b hb;unfold iJ at hp;(simp(disch:=first|decide|omega|(intros;exact rfl)|simp only[aa]) only[PM,hp,ir,go_sem,seval,aq])
theorem yV {s:List UInt8}:∀ (f a:Nat) (b:Int),a<=s.length->(bg f s a b).1.length+a<=s.length:=by
 intro f;induction f with
 | zero=>intro a b h;simpa[bg] using h
 | succ f ih =>
  intro a b h;rcases Nat.lt_or_ge a s.length with hal|hal
  ·obtain⟨⟨t,n,e⟩,hx⟩:∃ x,cr s a=x:=⟨_,rfl⟩;by_cases he:e=0
   ·subst he;have:=oi hx;by_cases hg:(gD t).2=0
    ·by_cases ho:(gD t).1.at_=b
     ·rw[dF hal hx hg ho];have:=ih n (b+1) (by omega)
      simp only[List.length_cons];omega
     ·rw[fS hal hx hg ho];simpa using h
    ·rw[ga hal hx hg];simpa using h
   ·rw[dG hal hx he];simpa using h
  ·rw[dz hal];simpa using h
theorem mH (s:List UInt8) (b:Int):(cU s b).1.length<=s.length:=by
 unfold cU;split
 ·have:=yV (s:=s) (s.length+1) 0 b (Nat.zero_le _);omega
 ·simp
end Go.Proofs.YtghfhomfppbooaaGreat
