import Derived.Test.YtgoifbjgmgbihaaGreatXZ23Tab
import Derived.Test.YtgoifbjgmgbihaaGreatVid
set_option linter.unusedSimpArgs false
set_option linter.unusedVariables false
set_option maxRecDepth 20000
set_option maxHeartbeats 16000000
namespace Go.Proofs.YtgoifbjgmgbihaaGreat
open Go.Vi
theorem Am (sum:iM) (s:List UInt8) (hs:s.length<=9223372036854775807):call 53 [vk .u32 ((sum.toNat:Nat):Int),vs s] []=some (vk .u32 (((cr sum s).toNat:Nat):Int),[]):=by
 apply ae Ut rfl;(simp(disch:=first|decide|omega|(intros;exact aN rfl rfl)|simp only[am]) only[SY,↓jJ,go_sem,seval,aO])
 refine gE (σ:=Nat) (fun k=>s.length-k) (fun k=>k<=s.length) (fun k=>[vs s,vk .u32 ((((s.take k).foldl pf (~~~sum)).toNat:Nat):Int),vi k]) (fun _=>(vk .u32 (((cr sum s).toNat:Nat):Int),[])) (fun _=>by simp only[go_sem,seval]) ?_ 0 (zP _) _ (by simp[go_sem,seval])
 intro k hk R hR;rcases Nat.lt_or_ge k s.length with h|h
 ·(simp(disch:=first|decide|omega|(intros;exact aN rfl rfl)|simp only[am]) only[GN,↓jJ,mG s k h,ua,go_sem,seval,aO])
  have e1:(s.take (k+1)).foldl pf (~~~sum)=pf ((s.take k).foldl pf (~~~sum)) s[k]:=by rw[gS s k h,List.foldl_append];rfl
  generalize (s.take k).foldl pf (~~~sum)=x at *;refine gE (σ:=Nat) (fun j=>8-j) (fun j=>j<=8) (fun j=>[vs s,vk .u32 (((fh j (x ^^^ BitVec.ofNat 32 s[k].toNat)).toNat:Nat):Int),vi k,vi j]) (fun _=>(vk .u32 (((cr sum s).toNat:Nat):Int),[])) (fun _=>by simp only[go_sem,seval]) ?_ 0 (zP _) _ (by simp[fh,go_sem,seval])
  intro j hj R2 hR2;rcases Nat.lt_or_ge j 8 with hj8|hj8
  ·have e2:fh (j+1) (x ^^^ BitVec.ofNat 32 s[k].toNat)=kz (fh j (x ^^^ BitVec.ofNat 32 s[k].toNat)):=pi j 1 _;generalize fh j (x ^^^ BitVec.ofNat 32 s[k].toNat)=y at *;cases hb:y.getLsbD 0 with
   | true =>
    have e3:kz y=(y >>> 1) ^^^ crcP:=by unfold kz;rw[hb];rfl
    (simp(disch:=first|decide|omega|(intros;exact aN rfl rfl)|simp only[am]) only[yQ,↓jJ,hb,go_sem,seval,aO])
    exact hR2 (j+1) (by omega) (by omega) _ (by simp[e2,e3,go_sem,seval])
   | false =>
    have e3:kz y=y >>> 1:=by unfold kz;rw[hb];rfl
    (simp(disch:=first|decide|omega|(intros;exact aN rfl rfl)|simp only[am]) only[yQ,↓jJ,hb,go_sem,seval,aO])
    exact hR2 (j+1) (by omega) (by omega) _ (by simp[e2,e3,go_sem,seval])
  ·have:j=8:=by omega
   subst this;refine aX ?_ yQ.eq_1;exact hR (k+1) (by omega) (by omega) _ (by simp[e1,pf,go_sem,seval])
 ·(simp(disch:=first|decide|omega|(intros;exact aN rfl rfl)|simp only[am]) only[GN,↓jJ,go_sem,seval,aO])
  rw[zL h];rfl
theorem ug (s:List UInt8) (hs:s.length<=9223372036854775807):call 30 [vs s] []=some (vk .u32 (((cr 0#32 s).toNat:Nat):Int),[]):=by
 apply ae T1 rfl;have h:call 53 [vk .u32 0,vs s] []=some (vk .u32 (((cr 0#32 s).toNat:Nat):Int),[]):=Am 0#32 s hs
 (refine aX ?_ SU.eq_1 h;try exact True.intro)
theorem qu (x:iM):call 162 [vk .u32 ((x.toNat:Nat):Int)] []=some (vs (iH x),[]):=by
 apply ae Rr rfl;(simp(disch:=first|decide|omega|(intros;exact aN rfl rfl)|simp only[am]) only[OO,↓jJ,iS,jO,gq,tX,iH,List.replicate,go_sem,seval,aO])
theorem o4 (x:iM):call 76 [vk .u32 ((x.toNat:Nat):Int)] []=some (vs (iH x),[]):=by
 apply ae TE rfl;(simp(disch:=first|decide|omega|(intros;exact aN rfl rfl)|simp only[am]) only[Th,↓jJ,iS,jO,gq,tX,iH,List.replicate,go_sem,seval,aO])
theorem AV:call 120 [] []=some (.agg tabW,[]):=by
 apply ae QF rfl;refine aX ?_ O8.eq_1;refine i8 (σ:=Nat) (fun k=>16-k) (fun k=>k<=16) (fun k=>[.one (.p 0 0),.one (.p 1 0),vi k]) (fun k=>[.cells (iE 0),.cells (iE k)]) (fun _=>(V.agg tabW,([]:Hp))) ?_ 0 (zP _) _ _ ?_
 ·intro k hk R hR;rcases Nat.lt_or_ge k 16 with h|h
  ·(simp(disch:=first|decide|omega|(intros;exact aN rfl rfl)|simp only[am]) only[AO,↓jJ,go_sem,seval,aO])
   have e0:k % 4294967296=k:=Nat.mod_eq_of_lt (by omega)
   refine i8 (σ:=Nat) (fun j=>4-j) (fun j=>j<=4) (fun j=>[.one (.p 0 0),.one (.p 1 0),vi k,vk .u32 (((fh j (BitVec.ofNat 32 k)).toNat:Nat):Int),vi k,vi j]) (fun _=>[.cells (iE 0),.cells (iE k)]) (fun _=>(V.agg tabW,([]:Hp))) ?_ 0 (zP _) _ _ ?_
   ·intro j hj R2 hR2;rcases Nat.lt_or_ge j 4 with hj4|hj4
    ·have e2:fh (j+1) (BitVec.ofNat 32 k)=kz (fh j (BitVec.ofNat 32 k)):=pi j 1 _;generalize fh j (BitVec.ofNat 32 k)=y at *;(simp(disch:=first|decide|omega|(intros;exact aN rfl rfl)|simp only[am]) only[vM,↓jJ,↓Qw,↓DR,<- mK,go_sem,seval,aO])
     exact hR2 (j+1) (by omega) (by omega) _ _ (at_head2 (by decide) (by simp only[List.map_cons,List.map_nil,go_sem,seval];exact rfl) (by simp[aF,aB,au,aC,aq,V.ren,L.ren,Box.ren,V.refs,L.refs,Box.refs,e2,gF,je]) (by simp[aF,aB,au,aC,aq,V.ren,L.ren,Box.ren,V.refs,L.refs,Box.refs,e2,gF,je]))
    ·have:j=4:=by omega
     subst this;(simp(disch:=first|decide|omega|(intros;exact aN rfl rfl)|simp only[am]) only[vM,↓jJ,lO,Ie k h,go_sem,seval,aO])
     exact hR (k+1) (by omega) (by omega) _ _ (at_head2 (by decide) (by simp only[List.map_cons,List.map_nil,go_sem,seval];exact rfl) (by simp[aF,aB,au,aC,aq,V.ren,L.ren,Box.ren,V.refs,L.refs,Box.refs,gF,je]) (by simp[aF,aB,au,aC,aq,V.ren,L.ren,Box.ren,V.refs,L.refs,Box.refs,gF,je]))
   ·exact(at_head2 (by decide) (by simp only[List.map_cons,List.map_nil,go_sem,seval];exact rfl) (by simp[aF,aB,au,aC,aq,V.ren,L.ren,Box.ren,V.refs,L.refs,Box.refs,fh,gF,je,e0]) (by simp[aF,aB,au,aC,aq,V.ren,L.ren,Box.ren,V.refs,L.refs,Box.refs,fh,gF,je,e0]))
  ·have:k=16:=by omega
   subst this;have ed:(iE 0).drop 16=[]:=zC (by rw[lO];exact Nat.le_refl _)
   have et:tabW.take 16=tabW:=zL (by rw[sh];exact Nat.le_refl _)
   (simp(disch:=first|decide|omega|(intros;exact aN rfl rfl)|simp only[am]) only[AO,↓jJ,vL,sh,lO,ed,et,K0,tabW_pure,go_sem,seval,aO])
 ·exact(at_head2 (by decide) (by simp only[List.map_cons,List.map_nil,go_sem,seval];exact rfl) (by simp[aF,aB,au,aC,aq,V.ren,L.ren,Box.ren,V.refs,L.refs,Box.refs,G3]) (by simp[aF,aB,au,aC,aq,V.ren,L.ren,Box.ren,V.refs,L.refs,Box.refs,G3]))
theorem JU (sum:iM) (s:List UInt8) (hs:s.length<=9223372036854775807):call 87 [vk .u32 ((sum.toNat:Nat):Int),vs s] []=some (vk .u32 (((cr sum s).toNat:Nat):Int),[]):=by
 apply ae Uc rfl;have e16:tabW.length=16:=sh;(simp(disch:=first|decide|omega|(intros;exact aN rfl rfl)|simp only[am]) only[Tq,↓jJ,AV,e16,List.append_nil,go_sem,seval,aO])
 refine i8 (σ:=Nat) (fun k=>s.length-k) (fun k=>k<=s.length) (fun k=>[vs s,.one (.p 0 0),vk .u32 ((((s.take k).foldl pf (~~~sum)).toNat:Nat):Int),vi s.length,vi k]) (fun _=>[.cells tabW]) (fun _=>(vk .u32 (((cr sum s).toNat:Nat):Int),([]:Hp))) ?_ 0 (zP _) _ _ (at_head2 (by decide) (by simp only[List.map_cons,List.map_nil,go_sem,seval];exact rfl) (by simp[aF,aB,au,aC,aq,V.ren,L.ren,Box.ren,V.refs,L.refs,Box.refs,mX,oU]) (by simp[aF,aB,au,aC,aq,V.ren,L.ren,Box.ren,V.refs,L.refs,Box.refs,mX,oU]))
 intro k hk R hR;rcases Nat.lt_or_ge k s.length with h|h
 ·have e1:(s.take (k+1)).foldl pf (~~~sum)=pf ((s.take k).foldl pf (~~~sum)) s[k]:=by rw[gS s k h,List.foldl_append];rfl
  rw[Jy] at e1;generalize (s.take k).foldl pf (~~~sum)=x at *;have l1:=xB (x ^^^ BitVec.ofNat 32 s[k].toNat);have l2:=xB (((x ^^^ BitVec.ofNat 32 s[k].toNat) >>> 4) ^^^ fh 4 ((x ^^^ BitVec.ofNat 32 s[k].toNat) &&& 15#32));(simp(disch:=first|decide|omega|(intros;exact aN rfl rfl)|simp only[am]) only[HZ,↓jJ,mG s k h,ua,KT,go_sem,seval,aO])
  exact hR (k+1) (by omega) (by omega) _ _ (at_head2 (by decide) (by simp only[List.map_cons,List.map_nil,go_sem,seval];exact rfl) (by simp[aF,aB,au,aC,aq,V.ren,L.ren,Box.ren,V.refs,L.refs,Box.refs,mX,oU,e1]) (by simp[aF,aB,au,aC,aq,V.ren,L.ren,Box.ren,V.refs,L.refs,Box.refs,mX,oU,e1]))
 ·(simp(disch:=first|decide|omega|(intros;exact aN rfl rfl)|simp only[am]) only[HZ,↓jJ,go_sem,seval,aO])
  rw[zL h];rfl
def tS (l:List (List UInt8)):iM:=l.foldl cr 0#32
def Jx (s:List UInt8):List D:=[.s s]
theorem Gi (s:List UInt8):(Jx s).length=1:=Eq.trans rfl rfl
theorem J4 (s:List UInt8):(Jx s)[0]?=some (.s s):=Eq.trans rfl rfl
theorem ym (l:List (List UInt8)) (hl:l.length<=9223372036854775807) (hs:∀ s∈l,s.length<=9223372036854775807):call 64 [vl (l.map Jx)] []=some (vk .u32 (((tS l).toNat:Nat):Int),[]):=by
 apply ae Tr rfl;refine aX ?_ S6.eq_1;refine gE (σ:=Nat) (fun k=>l.length-k) (fun k=>k<=l.length) (fun k=>[vk .u32 ((((l.take k).foldl cr 0#32).toNat:Nat):Int),vl (l.map Jx),vi l.length,vi k]) (fun _=>(vk .u32 (((tS l).toNat:Nat):Int),[])) (fun _=>by simp only[go_sem,seval]) ?_ 0 (zP _) _ (by simp[go_sem,seval])
 intro k hk R hR;rcases Nat.lt_or_ge k l.length with h|h
 ·have e1:(l.take (k+1)).foldl cr 0#32=cr ((l.take k).foldl cr 0#32) l[k]:=by rw[gS l k h,List.foldl_append];rfl
  have ho:=JU ((l.take k).foldl cr 0#32) l[k] (hs _ (zN h));refine aX ?_ HP.eq_1 @Gi @J4 ho;exact hR (k+1) (by omega) (by omega) _ (by simp[e1,go_sem,seval])
 ·refine aX ?_ HP.eq_1;rw[zL h];rfl
theorem xe (x:iM) (a b:List UInt8):cr x (a++b)=cr (cr x a) b:=by
 simp only[cr,List.foldl_append,BitVec.not_not]
theorem La (a b:List UInt8):tS [a,b]=cr 0#32 (a++b):=by simp only[tS,List.foldl_cons,List.foldl_nil,xe]
theorem Bi (n:Nat) (hn:n<18446744073709551616):call 160 [vk .u64 ((n:Nat):Int)] []=some (vi (blen n),[]):=by
 apply ae Q3 rfl;have last:∀ m:Nat,m<256->IntKind.u8.wrap ((m:Nat):Int)=((m:Nat):Int):=fun m h=>rJ (by omega)
 have tab:∀ m:Nat,m<256->IntKind.i64.wrap (((UInt8.ofNat (blen m)).toNat:Nat):Int)=((blen m:Nat):Int):=fun m h=>by
  rw[By h];have:=(gl m 8).2 h;exact gH (by omega)
 have b8:∀ m:Nat,m<256->blen m<=8:=fun m h=>(gl m 8).2 h
 by_cases c0:4294967296<=n
 ·have e0:=fI (n) 32 c0;simp only[Nat.reducePow] at e0;by_cases c1:65536<=n / 4294967296
  ·have e1:=fI (n / 4294967296) 16 c1;simp only[Nat.reducePow] at e1;by_cases c2:256<=n / 4294967296 / 65536
   ·have e2:=fI (n / 4294967296 / 65536) 8 c2;simp only[Nat.reducePow] at e2;have hm:n / 4294967296 / 65536 / 256<256:=by omega
    have:=b8 _ hm;have e:((blen n:Nat):Int)=32+16+8+((blen (n / 4294967296 / 65536 / 256):Nat):Int):=by omega
    rw[e];(simp(disch:=first|decide|omega|(intros;exact aN rfl rfl)|simp only[am]) only[wb,↓gY,↓gX,↓jC,last _ hm,ik _ hm,tab _ hm,Int.zero_add,go_sem,seval,aO])
   ·skip
    have hm:n / 4294967296 / 65536<256:=by omega
    have:=b8 _ hm;have e:((blen n:Nat):Int)=32+16+((blen (n / 4294967296 / 65536):Nat):Int):=by omega
    rw[e];(simp(disch:=first|decide|omega|(intros;exact aN rfl rfl)|simp only[am]) only[wb,↓gY,↓gX,↓jC,last _ hm,ik _ hm,tab _ hm,Int.zero_add,go_sem,seval,aO])
  ·skip
   by_cases c2:256<=n / 4294967296
   ·have e2:=fI (n / 4294967296) 8 c2;simp only[Nat.reducePow] at e2;have hm:n / 4294967296 / 256<256:=by omega
    have:=b8 _ hm;have e:((blen n:Nat):Int)=32+8+((blen (n / 4294967296 / 256):Nat):Int):=by omega
    rw[e];(simp(disch:=first|decide|omega|(intros;exact aN rfl rfl)|simp only[am]) only[wb,↓gY,↓gX,↓jC,last _ hm,ik _ hm,tab _ hm,Int.zero_add,go_sem,seval,aO])
   ·skip
    have hm:n / 4294967296<256:=by omega
    have:=b8 _ hm;have e:((blen n:Nat):Int)=32+((blen (n / 4294967296):Nat):Int):=by omega
    rw[e];(simp(disch:=first|decide|omega|(intros;exact aN rfl rfl)|simp only[am]) only[wb,↓gY,↓gX,↓jC,last _ hm,ik _ hm,tab _ hm,Int.zero_add,go_sem,seval,aO])
 ·skip
  by_cases c1:65536<=n
  ·have e1:=fI (n) 16 c1;simp only[Nat.reducePow] at e1;by_cases c2:256<=n / 65536
   ·have e2:=fI (n / 65536) 8 c2;simp only[Nat.reducePow] at e2;have hm:n / 65536 / 256<256:=by omega
    have:=b8 _ hm;have e:((blen n:Nat):Int)=16+8+((blen (n / 65536 / 256):Nat):Int):=by omega
    rw[e];(simp(disch:=first|decide|omega|(intros;exact aN rfl rfl)|simp only[am]) only[wb,↓gY,↓gX,↓jC,last _ hm,ik _ hm,tab _ hm,Int.zero_add,go_sem,seval,aO])
   ·skip
    have hm:n / 65536<256:=by omega
    have:=b8 _ hm;have e:((blen n:Nat):Int)=16+((blen (n / 65536):Nat):Int):=by omega
    rw[e];(simp(disch:=first|decide|omega|(intros;exact aN rfl rfl)|simp only[am]) only[wb,↓gY,↓gX,↓jC,last _ hm,ik _ hm,tab _ hm,Int.zero_add,go_sem,seval,aO])
  ·skip
   by_cases c2:256<=n
   ·have e2:=fI (n) 8 c2;simp only[Nat.reducePow] at e2;have hm:n / 256<256:=by omega
    have:=b8 _ hm;have e:((blen n:Nat):Int)=8+((blen (n / 256):Nat):Int):=by omega
    rw[e];(simp(disch:=first|decide|omega|(intros;exact aN rfl rfl)|simp only[am]) only[wb,↓gY,↓gX,↓jC,last _ hm,ik _ hm,tab _ hm,Int.zero_add,go_sem,seval,aO])
   ·skip
    have hm:n<256:=by omega
    have:=b8 _ hm;have e:((blen n:Nat):Int)=((blen (n):Nat):Int):=by omega
    rw[e];(simp(disch:=first|decide|omega|(intros;exact aN rfl rfl)|simp only[am]) only[wb,↓gY,↓gX,↓jC,last _ hm,ik _ hm,tab _ hm,Int.zero_add,go_sem,seval,aO])
theorem sZ (n:Nat) (hn:n<9223372036854775808):call 131 [vi n] []=some (vi (nd n),[]):=by
 apply ae R3 rfl;have h64:=Bi n (by omega)
 have hb:blen n<=63:=(gl n 63).2 (by omega)
 have hq:(((blen n:Nat):Int)+6).tdiv 7=(((blen n+6) / 7:Nat):Int):=by rw[Int.tdiv_eq_ediv_of_nonneg (by omega)];omega
 have hm:=Kr n;by_cases c:1<(blen n+6) / 7
 ·have e:nd n=(blen n+6) / 7:=by omega
  rw[e];(simp(disch:=first|decide|omega|(intros;exact aN rfl rfl)|simp only[am]) only[ME,h64,hq,go_sem,seval,aO])
 ·have e:nd n=1:=by omega
  have c':¬ (((blen n+6) / 7:Nat):Int) > 1:=by omega
  rw[e];(simp(disch:=first|decide|omega|(intros;exact aN rfl rfl)|simp only[am]) only[ME,h64,hq,if_neg c',go_sem,seval,aO])
  try rfl
theorem oJ (n:Nat) (hn:n<9223372036854775808):call 136 [vi n] []=some (vs (ai n),[]):=by
 apply ae Q0 rfl;have hl:=sZ n hn;have h9:=dD hn;obtain⟨m,hm⟩:∃ m,nd n=m+1:=⟨nd n-1,by have:=fL n;omega⟩
 have hlast:=E5 n m hm;have hlt:n / 128 ^ m<128:=by
  have:=((fq m n).1 hm).1;rw[Nat.div_lt_iff_lt_mul (Nat.pow_pos (by decide))]
  rwa [Nat.pow_succ,Nat.mul_comm] at this
 rw[hm] at hl h9;refine aX ?_ N5.eq_1 hl @Int.mul_one;refine i8 (σ:=Nat) (fun k=>m+1-k) (fun k=>k<=m+1) (fun k=>[vi n,.one (.sl 0 1 0 (m+1)),vi ((m+1:Nat):Int),vi k]) (fun k=>[.arr 1 (putR n (m+1) k) 0]) (fun _=>(vs (ai n),([]:Hp))) ?_ 0 (zP _) _ _ (at_head2 (by decide) (by simp only[List.map_cons,List.map_nil,go_sem,seval];exact rfl) (by simp[aF,aB,au,aC,aq,V.ren,L.ren,Box.ren,V.refs,L.refs,Box.refs,uI]) (by simp[aF,aB,au,aC,aq,V.ren,L.ren,Box.ren,V.refs,L.refs,Box.refs,uI]))
 intro k hk R hR;rcases Nat.lt_or_ge k (m+1) with h|h
 ·have hsh:db .shr (.i .i64 ((n:Nat):Int)) (.i .u64 (7*((k:Nat):Int)))=some (.i .i64 ((n / 2 ^ (7*k):Nat):Int)):=rW .i64 .u64 n (7*k) (by show 7*k<=64;omega)
  have e2:(2:Nat) ^ (7*k)=128 ^ k:=by rw[Nat.pow_mul]
  have hg:=ka n (m+1) k k h;have hs:=Hn n (m+1) k h;rw[e2] at hsh;(simp(disch:=first|decide|omega|(intros;exact aN rfl rfl)|simp only[am]) only[Bp,↓hsh,iS,↓Uo,hg,hs,go_sem,seval,aO])
  exact hR (k+1) (by omega) (by omega) _ _ (at_head2 (by decide) (by simp only[List.map_cons,List.map_nil,go_sem,seval];exact rfl) (by simp[aF,aB,au,aC,aq,V.ren,L.ren,Box.ren,V.refs,L.refs,Box.refs,true_and]) (by simp[aF,aB,au,aC,aq,V.ren,L.ren,Box.ren,V.refs,L.refs,Box.refs,true_and]))
 ·have hk':k=m+1:=by omega
  subst hk';have hg:=ka n (m+1) (m+1) m (by omega)
  have hd:xL n (m+1) m=128+n / 128 ^ m:=by unfold xL;rw[if_pos (by omega),Nat.mod_eq_of_lt hlt]
  rw[hd] at hg;generalize n / 128 ^ m=q at hlast hlt hg;have ha:=N8 (128+q) (by omega)
  have hmod:(128+q) % 128=q:=by omega
  rw[hmod] at ha;have hpl:=kG n (m+1) (m+1);have hw:IntKind.i64.wrap (((m+1:Nat):Int)-1)=((m:Nat):Int):=by rw[gH (by omega)];omega
  have hel:(ai n).length=m+1:=hm;have htk:(aw (ai n)).take (m+1)=aw (ai n):=zL (by rw[dp,hel];exact Nat.le_refl _)
  (simp(disch:=first|decide|omega|(intros;exact aN rfl rfl)|simp only[am]) only[Bp,hw,hg,↓ha,hlast,hpl,dp,hel,htk,lc,go_sem,seval,aO])
theorem hI (n:Nat) (hn:n<9223372036854775808):call 66 [vi n] []=some (vs (ai n),[]):=by
 apply ae Ug rfl;refine aX ?_ SX.eq_1;refine i8 (σ:=Nat × List UInt8) (fun s=>s.1) (fun s=>s.1<9223372036854775808∧s.2++ai s.1=ai n∧s.2.length+nd s.1<=9) (fun s=>[vi s.1,vs s.2]) (fun _=>[]) (fun _=>(vs (ai n),([]:Hp))) ?_ (n,[]) ⟨hn,rfl,by simpa using dD hn⟩ _ _ (at_head2 (by decide) (by simp only[List.map_cons,List.map_nil,go_sem,seval];exact rfl) (by simp[aF,aB,au,aC,aq,V.ren,L.ren,Box.ren,V.refs,L.refs,Box.refs,true_and]) (by simp[aF,aB,au,aC,aq,V.ren,L.ren,Box.ren,V.refs,L.refs,Box.refs,true_and]))
 rintro⟨k,l⟩ ⟨hk,he,hl⟩ R hR;simp only at hk he hl;rcases Nat.lt_or_ge k 128 with h|h
 ·rw[iV h] at he;have hnd:=fL k;refine aX ?_ GR.eq_1 @iS @jO @gq @tX;rw[he]
 ·have hq:((k:Nat):Int).tdiv 128=((k / 128:Nat):Int):=by rw[Int.tdiv_eq_ediv_of_nonneg (by omega)];omega
  have hr:((k:Nat):Int).tmod 128=((k % 128:Nat):Int):=by rw[Int.tmod_eq_emod_of_nonneg (by omega)];omega
  rw[oX (by omega)] at he
  rw[nV (by omega)] at hl
  have hw:IntKind.u8.wrap (128+((k % 128:Nat):Int))=((128+k % 128:Nat):Int):=by rw[rJ (by omega)];omega
  have hb:UInt8.ofNat (((128+k % 128:Nat):Int)).toNat=UInt8.ofNat (128+k % 128):=rfl;refine aX ?_ GR.eq_1 hq hr hw @jO @gq;exact hR (k / 128,l++[UInt8.ofNat (128+k % 128)]) (by simp only[];omega) ⟨by simp only[];omega,by simp only[];rw[List.append_assoc];exact he,by simp only[zA,List.length_cons,List.length_nil];omega⟩ _ _ (at_head2 (by decide) (by simp only[List.map_cons,List.map_nil,go_sem,seval];exact rfl) (by simp[aF,aB,au,aC,aq,V.ren,L.ren,Box.ren,V.refs,L.refs,Box.refs,true_and]) (by simp[aF,aB,au,aC,aq,V.ren,L.ren,Box.ren,V.refs,L.refs,Box.refs,true_and]))
def jd (a:Nat):Option (Nat × Nat)->V
 | some (n,k)=>.tup [(false,[.d (.i .i64 n)]),(false,[.d (.i .i64 ((a+k:Nat):Int))]),(false,[.d (.b true)])]
 | none=>.tup [(false,[.d (.i .i64 0)]),(false,[.d (.i .i64 0)]),(false,[.d (.b false)])]
theorem Lf (c i:Nat) (hc:c<128) (hi:i<=8):db .shl (.i .i64 ((c:Nat):Int)) (.i .u64 (7*((i:Nat):Int)))=some (.i .i64 ((c*2 ^ (7*i):Nat):Int))∧c*2 ^ (7*i)+2 ^ (7*i)<=9223372036854775808:=by
 have h2:2 ^ (7*i)<=2 ^ 56:=Nat.pow_le_pow_right (by decide) (by omega)
 have h3:(c+1)*2 ^ (7*i)<=128*2 ^ 56:=Nat.mul_le_mul (by omega) h2
 have h4:(128:Nat)*2 ^ 56=9223372036854775808:=by decide
 have h5:(c+1)*2 ^ (7*i)=c*2 ^ (7*i)+2 ^ (7*i):=by rw[Nat.add_mul,Nat.one_mul]
 refine⟨?_,by omega⟩
 have hp:0<2 ^ (7*i):=Nat.pow_pos (by decide)
 simp only[db];rw[if_neg (by omega)]
 have e1:(7*((i:Nat):Int)).toNat=7*i:=by omega
 have e2:min (7*i) IntKind.i64.bits=7*i:=Nat.min_eq_left (by show 7*i<=64;omega)
 rw[e1,e2];have e3:((c:Nat):Int)*2 ^ (7*i)=((c*2 ^ (7*i):Nat):Int):=by simp
 rw[e3,gH (by omega)]
theorem vU (i n:Nat):j8 [] i n=none:=rfl
theorem oj (c:UInt8) (r:List UInt8) (i n:Nat):j8 (c::r) i n=if 9<=i then none else if 128<=c.toNat then j8 r (i+1) (n+c.toNat % 128*128 ^ i) else if c.toNat=0∧0<i then none else some (n+c.toNat*128 ^ i,i+1):=rfl
theorem mN (s:List UInt8) (a:Nat) (ha:a<9223372036854775808) (hs:s.length<=9223372036854775807):call 155 [vs s,vi a] []=some (jd a (j8 (s.drop a) 0 0),[]):=by
 apply ae Rw rfl;refine aX ?_ PQ.eq_1;refine gE (σ:=Nat × Nat) (fun t=>9-t.1) (fun t=>t.1<=9∧t.2<128 ^ t.1) (fun t=>[vs s,vi a,vi t.2,vi t.1]) (fun t=>(jd a (j8 (s.drop (a+t.1)) t.1 t.2),([]:Hp))) (fun _=>by simp only[go_sem,seval]) ?_ (0,0) ⟨by decide,by decide⟩ _ (by simp[go_sem,seval])
 rintro⟨i,n⟩ ⟨hi,hn⟩ R hR;simp only at hi hn;rcases Nat.lt_or_ge (a+i) s.length with h|h
 ·rcases Nat.lt_or_ge i 9 with h9|h9
  ·simp only[zD h,oj];rw[if_neg (by omega)]
   obtain⟨c,hc⟩:∃ c,c=s[a+i]:=⟨_,rfl⟩;rw[<- hc];have hg:s[a+i]?=some c:=by rw[hc];simp[h]
   have hc8:=c.toNat_lt;have hm:c.toNat % 128<128:=Nat.mod_lt _ (by decide)
   obtain⟨hsh,hbd⟩:=Lf (c.toNat % 128) i hm (by omega)
   have hp:(2:Nat) ^ (7*i)=128 ^ i:=by rw[Nat.pow_mul]
   have hand:=N8 c.toNat (by omega)
   have hor:=QV n (c.toNat % 128) (7*i) (by rw[hp];exact hn) (by rw[hp] at hbd ⊢;omega)
   rw[hp] at hsh hor hbd;have hidx:(((a:Nat):Int)+((i:Nat):Int)).toNat=a+i:=by omega
   have hnat:((a+(i+1):Nat):Int)=(a:Int)+(i:Int)+1:=by omega
   have hnx:n+c.toNat % 128*128 ^ i<128 ^ (i+1):=by
    have:=Nat.mul_le_mul_right (128 ^ i) (by omega:c.toNat % 128+1<=128)
    rw[Nat.pow_succ,Nat.mul_comm (128 ^ i) 128];rw[Nat.add_mul,Nat.one_mul] at this;omega
   rcases Nat.lt_or_ge c.toNat 128 with h1|h1
   ·rw[if_neg (by omega)]
    have hmm:c.toNat % 128=c.toNat:=Nat.mod_eq_of_lt h1;rw[hmm] at hand hsh hor;by_cases h0:c.toNat=0
    ·by_cases hi0:0<i
     ·rw[if_pos ⟨h0,hi0⟩];(simp(disch:=first|decide|omega|(intros;exact aN rfl rfl)|simp only[am]) only[lS,hidx,hg,↓hand,↓hsh,↓hor,jd,go_sem,seval,aO])
     ·rw[if_neg (by omega)]
      (simp(disch:=first|decide|omega|(intros;exact aN rfl rfl)|simp only[am]) only[lS,hidx,hg,↓hand,↓hsh,↓hor,hnat,jd,go_sem,seval,aO])
    ·rw[if_neg (by omega)]
     (simp(disch:=first|decide|omega|(intros;exact aN rfl rfl)|simp only[am]) only[lS,hidx,hg,↓hand,↓hsh,↓hor,hnat,jd,go_sem,seval,aO])
   ·rw[if_pos h1];(simp(disch:=first|decide|omega|(intros;exact aN rfl rfl)|simp only[am]) only[lS,hidx,hg,↓hand,↓hsh,↓hor,go_sem,seval,aO])
    exact hR (i+1,n+c.toNat % 128*128 ^ i) (by simp only[];omega) ⟨by simp only[];omega,hnx⟩ _ (by simp[go_sem,seval])
  ·have e:j8 (s.drop (a+i)) i n=none:=by
    rw[zD h,oj,if_pos h9]
   simp only[e];(simp(disch:=first|decide|omega|(intros;exact aN rfl rfl)|simp only[am]) only[lS,jd,go_sem,seval,aO])
 ·simp only[zC h,vU];rcases Nat.lt_or_ge i 9 with h9|h9
  ·(simp(disch:=first|decide|omega|(intros;exact aN rfl rfl)|simp only[am]) only[lS,jd,go_sem,seval,aO])
  ·(simp(disch:=first|decide|omega|(intros;exact aN rfl rfl)|simp only[am]) only[lS,jd,go_sem,seval,aO])
theorem gi (s:List UInt8) (a:Nat) (ha:a<9223372036854775808) (hs:s.length<=9223372036854775807):call 50 [vs s,vi a] []=some (jd a (j8 (s.drop a) 0 0),[]):=by
 apply ae Ui rfl;rcases Nat.lt_or_ge a s.length with hal|hal
 ·have e00:(s.take (a+0)).drop a=[]:=zC (by simp;omega)
  rw[show j8 (s.drop a) 0 0=j8 (s.drop (a+0)) 0 (val ((s.take (a+0)).drop a)) by rw[e00];rfl]
  refine aX ?_ QW.eq_1;refine i8 (σ:=Nat) (fun i=>9-i) (fun i=>i<=9∧a+i<=s.length∧EE ((s.take (a+i)).drop a)) (fun i=>[vs s,vi a,vi (val ((s.take (a+i)).drop a)),vi ((128 ^ min i 8:Nat):Int),vi i]) (fun _=>[])
   (fun i=>(jd a (j8 (s.drop (a+i)) i (val ((s.take (a+i)).drop a))),([]:Hp))) ?_ 0 ⟨by decide,by omega,?_⟩ _ _ ?_
  ·rintro i ⟨hi,hai,hp⟩ R hR;obtain⟨p,hpe⟩:∃ p,p=(s.take (a+i)).drop a:=⟨_,rfl⟩;have hpl:=Kb s a i hai;rw[<- hpe] at hp hpl;simp only[<- hpe];have hvl:=Hg p;rw[hpl] at hvl;rcases Nat.lt_or_ge (a+i) s.length with h|h
   ·have hsn:=FO s a i h;rw[<- hpe] at hsn;rcases Nat.lt_or_ge i 9 with h9|h9
    ·simp only[zD h,oj];rw[if_neg (by omega)]
     obtain⟨c,hc⟩:∃ c,c=s[a+i]:=⟨_,rfl⟩;rw[<- hc] at hsn ⊢;have hg:s[a+i]?=some c:=by rw[hc];simp[h]
     have hc8:=c.toNat_lt;have hm:c.toNat % 128<128:=Nat.mod_lt _ (by decide)
     obtain⟨_,hbd⟩:=Lf (c.toNat % 128) i hm (by omega)
     have hpw:(2:Nat) ^ (7*i)=128 ^ i:=by rw[Nat.pow_mul]
     rw[hpw] at hbd;have hmin:min i 8=i:=by omega
     have hidx:(((a:Nat):Int)+((i:Nat):Int)).toNat=a+i:=by omega
     have hr:((c.toNat:Nat):Int).tmod 128=((c.toNat % 128:Nat):Int):=by rw[Int.tmod_eq_emod_of_nonneg (by omega)];omega
     have hmul:((c.toNat % 128:Nat):Int)*((128 ^ i:Nat):Int)=((c.toNat % 128*128 ^ i:Nat):Int):=(Int.natCast_mul _ _).symm;have hw1:IntKind.i64.wrap (((c.toNat % 128*128 ^ i:Nat):Int))=((c.toNat % 128*128 ^ i:Nat):Int):=gH (by omega)
     have hw2:IntKind.i64.wrap (((val p:Nat):Int)+((c.toNat % 128*128 ^ i:Nat):Int))=((val p+c.toNat % 128*128 ^ i:Nat):Int):=by rw[gH (by omega)];omega
     have hwc:IntKind.i64.wrap ((c.toNat:Nat):Int)=((c.toNat:Nat):Int):=gH (by omega)
     have hnat:((a+(i+1):Nat):Int)=(a:Int)+(i:Int)+1:=by omega
     have hto:((a:Int)+(i:Int)+1).toNat=a+i+1:=by omega
     rcases Nat.lt_or_ge c.toNat 128 with h1|h1
     ·rw[if_neg (by omega)]
      have hmm:c.toNat % 128=c.toNat:=Nat.mod_eq_of_lt h1;rw[hmm] at hw1 hw2 hmul hr hbd;have henc:=zn p c hp h1;rw[hpl] at henc;have hput:=hI (val p+c.toNat*128 ^ i) (by omega)
      by_cases h0:c.toNat=0∧0<i
      ·rw[if_pos h0];have hne:(ai (val p+c.toNat*128 ^ i) == p++[c])=false:=by
        rw[beq_eq_false_iff_ne];exact fun e=>(henc.1 e) h0
       (simp(disch:=first|decide|omega|(intros;exact aN rfl rfl)|simp only[am]) only[qY,hidx,hg,hwc,hr,hmin,hmul,hw1,hw2,hput,hto,hsn,hne,jd,go_sem,seval,aO])
      ·rw[if_neg h0];have hne:(ai (val p+c.toNat*128 ^ i) == p++[c])=true:=by
        rw[beq_iff_eq];exact henc.2 h0
       (simp(disch:=first|decide|omega|(intros;exact aN rfl rfl)|simp only[am]) only[qY,hidx,hg,hwc,hr,hmin,hmul,hw1,hw2,hput,hto,hsn,hne,hnat,jd,go_sem,seval,aO])
     ·rw[if_pos h1];have hv:val (p++[c])=val p+c.toNat % 128*128 ^ i:=by rw[oP,hpl]
      have hb:EE (p++[c]):=by
       intro x hx;rcases zX.1 hx with hx|hx
       ·exact hp x hx
       ·simp at hx;subst hx;exact h1
      have hR':=hR (i+1) (by omega)
      simp only[<- Nat.add_assoc,hsn,hv] at hR';rcases Nat.lt_or_ge i 8 with h8|h8
      ·have hmin2:min (i+1) 8=i+1:=by omega
       have hpb:128 ^ i*128<=128 ^ 8:=by rw[<- Nat.pow_succ];exact Nat.pow_le_pow_right (by decide) (by omega)
       have hpe8:(128:Nat) ^ 8=72057594037927936:=by decide
       have hw3:IntKind.i64.wrap (((128 ^ i:Nat):Int)*128)=((128 ^ (i+1):Nat):Int):=by
        rw[Nat.pow_succ,gH (by omega)];omega
       refine aX ?_ qY.eq_1 hidx hg hwc hr hmin hmul hw1 hw2 hw3;exact hR' ⟨by omega,by omega,hb⟩ _ _ (at_head2 (by decide) (by simp only[List.map_cons,List.map_nil,go_sem,seval];exact rfl) (by simp[aF,aB,au,aC,aq,V.ren,L.ren,Box.ren,V.refs,L.refs,Box.refs,hmin2]) (by simp[aF,aB,au,aC,aq,V.ren,L.ren,Box.ren,V.refs,L.refs,Box.refs,hmin2]))
      ·have hi8:i=8:=by omega
       have hmin2:min (i+1) 8=i:=by omega
       refine aX ?_ qY.eq_1 hidx hg hwc hr hmin hmul hw1 hw2;exact hR' ⟨by omega,by omega,hb⟩ _ _ (at_head2 (by decide) (by simp only[List.map_cons,List.map_nil,go_sem,seval];exact rfl) (by simp[aF,aB,au,aC,aq,V.ren,L.ren,Box.ren,V.refs,L.refs,Box.refs,hmin2]) (by simp[aF,aB,au,aC,aq,V.ren,L.ren,Box.ren,V.refs,L.refs,Box.refs,hmin2]))
    ·have e:j8 (s.drop (a+i)) i (val p)=none:=by
      rw[zD h,oj,if_pos h9]
     simp only[e];(simp(disch:=first|decide|omega|(intros;exact aN rfl rfl)|simp only[am]) only[qY,jd,go_sem,seval,aO])
   ·simp only[zC h,vU];rcases Nat.lt_or_ge i 9 with h9|h9
    ·(simp(disch:=first|decide|omega|(intros;exact aN rfl rfl)|simp only[am]) only[qY,jd,go_sem,seval,aO])
    ·(simp(disch:=first|decide|omega|(intros;exact aN rfl rfl)|simp only[am]) only[qY,jd,go_sem,seval,aO])
  ·intro c hc;simp at hc
  ·have e0:(s.take (a+0)).drop a=[]:=zC (by simp;omega)
   have e0':(s.take a).drop a=[]:=zC (by simp;omega)
   exact(at_head2 (by decide) (by simp only[List.map_cons,List.map_nil,go_sem,seval];exact rfl) (by simp[aF,aB,au,aC,aq,V.ren,L.ren,Box.ren,V.refs,L.refs,Box.refs,e0',val]) (by simp[aF,aB,au,aC,aq,V.ren,L.ren,Box.ren,V.refs,L.refs,Box.refs,e0',val]))
 ·rw[zC hal,vU];(simp(disch:=first|decide|omega|(intros;exact aN rfl rfl)|simp only[am]) only[QW,jd,go_sem,seval,aO])
theorem qd (n:Int):call 159 [vi n] []=some (vb (decide (1<=n) && decide (n<=65536)),[]):=by
 apply ae Ro rfl;by_cases c:1<=n
 ·(refine aX ?_ MB.eq_1 c;try exact True.intro)
 ·(refine aX ?_ MB.eq_1 c @Bool.false_and;try exact True.intro)
theorem De (n:Int):call 130 [vi n] []=some (vi (yK n),[]):=by
 apply ae QN rfl;have hf:=qd n;by_cases c:1<=n∧n<=65536
 ·rw[zT c.1,zT c.2] at hf;obtain⟨k,rfl⟩:∃ k:Nat,n=k:=⟨n.toNat,by omega⟩
  have hl:=sZ k (by omega)
  have h9:=dD (n:=k) (by omega)
  unfold yK;rw[if_pos c,Int.toNat_natCast]
  (refine aX ?_ NT.eq_1 hf hl;try exact True.intro)
 ·have hf':(decide (1<=n) && decide (n<=65536))=false:=by rw[Bool.and_eq_false_iff,decide_eq_false_iff_not,decide_eq_false_iff_not];omega
  rw[hf'] at hf;unfold yK;rw[if_neg c]
  (refine aX ?_ NT.eq_1 hf;try exact True.intro)
def wu (b:List UInt8):V:=if 1<=b.length∧b.length<=65536 then .tup [(false,[zS (aT b)]),(false,[zI 0])] else .tup [(false,[.d (.s [])]),(false,[zI 5])]
theorem u7 (a b:List UInt8) (ha:a.length<=9223372036854775807) (hb:b.length<=9223372036854775807):call 64 [vl [[.s a],[.s b]]] []=some (vk .u32 (((cr 0#32 (a++b)).toNat:Nat):Int),[]):=by
 have:=ym [a,b] (by simp) (by intro s hs;simp at hs;rcases hs with rfl|rfl <;> assumption)
 rw[La] at this;exact this
theorem nk (b:List UInt8) (hb:b.length<=9223372036854775807):call 135 [vs b] []=some (wu b,[]):=by
 apply ae R9 rfl;have hf:=qd b.length;unfold wu;by_cases c:1<=b.length∧b.length<=65536
 ·have e1:decide (1<=(b.length:Int))=true:=by simp;omega
  have e2:decide ((b.length:Int)<=65536)=true:=by simp;omega
  rw[e1,e2] at hf;have hp:=oJ b.length (by omega)
  have hel:(ai b.length).length<=9:=dD (n:=b.length) (by omega)
  have hs:=u7 (ai b.length) b (by omega) hb
  have h4:=qu (cr 0#32 (ai b.length++b));have l4:=ij (cr 0#32 (ai b.length++b));rw[if_pos c]
  (refine aX ?_ L5.eq_1 hf hp hs h4 l4 @aT.eq_1;try exact True.intro)
 ·have hf':(decide (1<=(b.length:Int)) && decide ((b.length:Int)<=65536))=false:=by rw[Bool.and_eq_false_iff,decide_eq_false_iff_not,decide_eq_false_iff_not];omega
  rw[hf'] at hf;rw[if_neg c]
  (refine aX ?_ L5.eq_1 hf;try exact True.intro)
theorem gG (b:List UInt8) (hb:b.length<=9223372036854775807):call 74 [vs b] []=some (wu b,[]):=by
 apply ae Up rfl;unfold wu;by_cases c:1<=b.length
 ·by_cases c2:b.length<=65536
  ·have hp:=hI b.length (by omega)
   have hel:(ai b.length).length<=9:=dD (n:=b.length) (by omega)
   have hs:=ug (ai b.length++b) (by simp;omega)
   have h4:=o4 (cr 0#32 (ai b.length++b));have l4:=ij (cr 0#32 (ai b.length++b));rw[if_pos ⟨c,c2⟩]
   (refine aX ?_ Qv.eq_1 hp hs h4 l4 @aT.eq_1;try exact True.intro)
  ·rw[if_neg (by omega)]
   (refine aX ?_ Qv.eq_1;try exact True.intro)
 ·rw[if_neg (by omega)]
  (refine aX ?_ Qv.eq_1;try exact True.intro)
theorem ER (l:List UInt8) (hl:l.length<=9223372036854775807):call 194 [vs l] []=some (vb (ky l),[]):=by
 apply ae Ss rfl;by_cases c:l.length<=8
 ·have e:ky l=(l.drop 0).all fun c=>decide (128<=c.toNat):=by simp[ky,c]
  rw[e];refine aX ?_ MI.eq_1;refine gE (σ:=Nat) (fun k=>l.length-k) (fun k=>k<=l.length) (fun k=>[vs l,vi l.length,vi k]) (fun k=>(vb ((l.drop k).all fun c=>decide (128<=c.toNat)),([]:Hp))) (fun _=>by simp only[go_sem,seval]) ?_ 0 (zP _) _ (by simp[go_sem,seval])
  intro k hk R hR;rcases Nat.lt_or_ge k l.length with h|h
  ·simp only[zD h,List.all_cons];by_cases c1:128<=l[k].toNat
   ·rw[zT c1,Bool.true_and];refine aX ?_ xo.eq_1 (mG l k h);exact hR (k+1) (by first|omega|(simp only[];omega)) (by first|omega|(simp only[];omega)) _ (by simp[go_sem,seval])
   ·rw[zF c1,Bool.false_and]
    (refine aX ?_ xo.eq_1 (mG l k h);try exact True.intro)
  ·(simp(disch:=first|decide|omega|(intros;exact aN rfl rfl)|simp only[am]) only[xo,zC h,List.all_nil,go_sem,seval,aO])
 ·have e:ky l=false:=by simp[ky,c]
  rw[e]
  (refine aX ?_ MI.eq_1;try exact True.intro)
theorem Ek (s:List UInt8) (a:Nat) (ha:a<=s.length) (hs:s.length<=9223372036854775807):call 73 [vs s,vi a] []=some (vb (ky (s.drop a)),[]):=by
 apply ae TC rfl;have e:ky (s.drop a)=(((s.drop (a+0)).all fun c=>decide (128<=c.toNat)) && decide (s.length-a<=8)):=by simp[ky,Bool.and_comm]
 rw[e];refine aX ?_ Tk.eq_1;refine gE (σ:=Nat) (fun k=>s.length-k) (fun k=>k<=s.length) (fun k=>[vs s,vi a,vi k]) (fun k=>(vb (((s.drop k).all fun c=>decide (128<=c.toNat)) && decide (s.length-a<=8)),([]:Hp))) (fun _=>by simp only[go_sem,seval]) ?_ a ha _ (by simp[go_sem,seval])
 intro k hk R hR;rcases Nat.lt_or_ge k s.length with h|h
 ·simp only[zD h,List.all_cons];by_cases c1:128<=s[k].toNat
  ·rw[zT c1,Bool.true_and];refine aX ?_ za.eq_1 (mG s k h);exact hR (k+1) (by first|omega|(simp only[];omega)) (by first|omega|(simp only[];omega)) _ (by simp[go_sem,seval])
  ·rw[zF c1,Bool.false_and,Bool.false_and]
   (refine aX ?_ za.eq_1 (mG s k h);try exact True.intro)
 ·rw[zC h,List.all_nil,Bool.true_and];by_cases c:s.length-a<=8
  ·rw[zT c]
   (refine aX ?_ za.eq_1;try exact True.intro)
  ·rw[zF c]
   (refine aX ?_ za.eq_1;try exact True.intro)
def dw (r:List UInt8 × Nat × Int):V:=.tup [(false,[zS r.1]),(false,[zI ((r.2.1:Nat):Int)]),(false,[zI r.2.2])]
theorem FX (n:Nat):call 159 [vi n] []=some (vb (kC n),[]):=by
 have:=qd n;have e:(decide (1<=(n:Int)) && decide ((n:Int)<=65536))=kC n:=by
  unfold kC;congr 1 <;> (rw[decide_eq_decide];omega)
 rwa [e] at this
theorem Ep (s:List UInt8) (a:Nat) (ha:a<9223372036854775808) (hs:s.length<=4611686018427387904):call 188 [vs s,vi a] []=some (dw (fY s a),[]):=by
 apply ae Sh rfl;unfold fY;rcases Nat.lt_or_ge a s.length with hal|hal
 ·have ho:=ER (s.drop a) (by simp;omega)
  cases hop:ky (s.drop a) with
  | true =>
   rw[hop] at ho;rw[if_pos (.inr rfl)];(simp(disch:=first|decide|omega|(intros;exact aN rfl rfl)|simp only[am]) only[xG,ho,dw,go_sem,seval,aO])
   try rfl
  | false =>
   rw[hop] at ho;rw[if_neg (by simp;omega)]
   have hrd:=mN s a ha (by omega)
   cases hr:j8 (s.drop a) 0 0 with
   | none =>
    rw[hr] at hrd;(simp(disch:=first|decide|omega|(intros;exact aN rfl rfl)|simp only[am]) only[xG,ho,hrd,jd,dw,go_sem,seval,aO])
    try rfl
   | some q =>
    obtain⟨n,k⟩:=q;rw[hr] at hrd;obtain⟨te,t1,t2,t3⟩:=j5 hr;have hft:=FX n;dsimp only
    by_cases hfn:kC n=false
    ·rw[hfn] at hft;rw[if_pos hfn];(simp(disch:=first|decide|omega|(intros;exact aN rfl rfl)|simp only[am]) only[xG,ho,hrd,jd,hft,dw,go_sem,seval,aO])
     try rfl
    ·have hfn:kC n=true:=by simpa using hfn
     rw[hfn] at hft;have hn:1<=n∧n<=65536:=by simpa[kC] using hfn
     have e1:((a+k:Nat):Int)+4=((a+k+4:Nat):Int):=rfl;have e3:((a+k+4:Nat):Int)+((n:Nat):Int)=((a+k+4+n:Nat):Int):=rfl;have e4:IntKind.i64.wrap (((a+k+4:Nat):Int)-4)=((a+k:Nat):Int):=by rw[gH (by omega)];omega
     rw[if_neg (by rw[hfn];decide)]
     by_cases hsh:s.length<a+k+4+n
     ·rw[if_pos hsh];(simp(disch:=first|decide|omega|(intros;exact aN rfl rfl)|simp only[am]) only[xG,ho,hrd,jd,hft,dw,e1,go_sem,seval,aO])
      try rfl
     ·rw[if_neg hsh];have hcs:=u7 (ai n) ((s.take (a+k+4+n)).drop (a+k+4)) (by have:(ai n).length<=9:=dD (n:=n) (by omega);omega) (by simp;omega)
      have h4:=qu (cr 0#32 (ai n++(s.take (a+k+4+n)).drop (a+k+4)));by_cases hq:iH (cr 0#32 (ai n++(s.take (a+k+4+n)).drop (a+k+4)))=(s.take (a+k+4)).drop (a+k)
      ·have hb:(iH (cr 0#32 (ai n++(s.take (a+k+4+n)).drop (a+k+4))) == (s.take (a+k+4)).drop (a+k))=true:=by rw[beq_iff_eq];exact hq
       rw[if_pos hq];(simp(disch:=first|decide|omega|(intros;exact aN rfl rfl)|simp only[am]) only[xG,ho,hrd,jd,hft,dw,e1,e3,e4,te,hcs,h4,hb,go_sem,seval,aO])
      ·have hb:(iH (cr 0#32 (ai n++(s.take (a+k+4+n)).drop (a+k+4))) == (s.take (a+k+4)).drop (a+k))=false:=by rw[beq_eq_false_iff_ne];exact hq
       rw[if_neg hq];(simp(disch:=first|decide|omega|(intros;exact aN rfl rfl)|simp only[am]) only[xG,ho,hrd,jd,hft,dw,e1,e3,e4,te,hcs,h4,hb,go_sem,seval,aO])
       try rfl
 ·rw[if_pos (.inl hal)];(simp(disch:=first|decide|omega|(intros;exact aN rfl rfl)|simp only[am]) only[xG,dw,go_sem,seval,aO])
  try rfl
theorem ws (s:List UInt8) (a:Nat) (ha:a<9223372036854775808) (hs:s.length<=4611686018427387904):call 49 [vs s,vi a] []=some (dw (fY s a),[]):=by
 apply ae Un rfl;unfold fY;rcases Nat.lt_or_ge a s.length with hal|hal
 ·have ho:=Ek s a (by omega) (by omega)
  cases hop:ky (s.drop a) with
  | true =>
   rw[hop] at ho;rw[if_pos (.inr rfl)];(simp(disch:=first|decide|omega|(intros;exact aN rfl rfl)|simp only[am]) only[JY,ho,dw,go_sem,seval,aO])
   try rfl
  | false =>
   rw[hop] at ho;rw[if_neg (by simp;omega)]
   have hrd:=gi s a ha (by omega)
   cases hr:j8 (s.drop a) 0 0 with
   | none =>
    rw[hr] at hrd;(simp(disch:=first|decide|omega|(intros;exact aN rfl rfl)|simp only[am]) only[JY,ho,hrd,jd,dw,go_sem,seval,aO])
    try rfl
   | some q =>
    obtain⟨n,k⟩:=q;rw[hr] at hrd;obtain⟨te,t1,t2,t3⟩:=j5 hr;dsimp only
    by_cases hfn:kC n=false
    ·rw[if_pos hfn];have hn':n<1∨65536<n:=by
      simp only[kC,Bool.and_eq_false_iff,decide_eq_false_iff_not] at hfn;omega
     by_cases h0:n<1
     ·(simp(disch:=first|decide|omega|(intros;exact aN rfl rfl)|simp only[am]) only[JY,ho,hrd,jd,dw,go_sem,seval,aO])
      try rfl
     ·(simp(disch:=first|decide|omega|(intros;exact aN rfl rfl)|simp only[am]) only[JY,ho,hrd,jd,dw,go_sem,seval,aO])
      try rfl
    ·have hfn:kC n=true:=by simpa using hfn
     have hn:1<=n∧n<=65536:=by simpa[kC] using hfn
     have e1:((a+k:Nat):Int)+4=((a+k+4:Nat):Int):=rfl;have e3:((a+k+4:Nat):Int)+((n:Nat):Int)=((a+k+4+n:Nat):Int):=rfl;have e4:IntKind.i64.wrap (((a+k+4:Nat):Int)-4)=((a+k:Nat):Int):=by rw[gH (by omega)];omega
     rw[if_neg (by rw[hfn];decide)]
     by_cases hsh:s.length<a+k+4+n
     ·rw[if_pos hsh];(simp(disch:=first|decide|omega|(intros;exact aN rfl rfl)|simp only[am]) only[JY,ho,hrd,jd,dw,e1,go_sem,seval,aO])
      try rfl
     ·rw[if_neg hsh];have htl:((s.take (a+k+4+n)).drop (a+k+4)).length=n:=by simp;omega
      have hpf:=gG ((s.take (a+k+4+n)).drop (a+k+4)) (by omega)
      unfold wu at hpf;rw[htl,if_pos hn] at hpf;have hsp:(s.take (a+k+4+n)).drop a=ai n++(s.take (a+k+4)).drop (a+k)++(s.take (a+k+4+n)).drop (a+k+4):=by
       rw[<- te];have s1:∀ (l:List UInt8) (i j m:Nat),i<=j->j<=m->(l.take m).drop i=(l.take j).drop i++(l.take m).drop j:=by
        intro l i j m hij hjm;have e:l.take m=l.take j++(l.take m).drop j:=by
         conv=>lhs;rw[<- zY j (l.take m),List.take_take,Nat.min_eq_left hjm]
        rcases Nat.lt_or_ge l.length j with hlj|hlj
        ·have:(l.take m).drop j=[]:=zC (by simp;omega)
         rw[this,List.append_nil,zL (by omega),zL (by omega)]
        ·conv=>lhs;rw[e]
         rw[List.drop_append_of_le_length (by simp;omega)]
       rw[s1 s a (a+k) (a+k+4+n) (by omega) (by omega),s1 s (a+k) (a+k+4) (a+k+4+n) (by omega) (by omega),List.append_assoc]
      have hto:((a+k+4+n:Nat):Int).toNat=a+k+4+n:=rfl;have e5:4+((n:Nat):Int)=((4+n:Nat):Int):=rfl;have hff:aT ((s.take (a+k+4+n)).drop (a+k+4))=ai n++iH (cr 0#32 (ai n++(s.take (a+k+4+n)).drop (a+k+4)))++(s.take (a+k+4+n)).drop (a+k+4):=by
       unfold aT;rw[htl]
      by_cases hq:iH (cr 0#32 (ai n++(s.take (a+k+4+n)).drop (a+k+4)))=(s.take (a+k+4)).drop (a+k)
      ·have hb:(aT ((s.take (a+k+4+n)).drop (a+k+4)) == (s.take (a+k+4+n)).drop a)=true:=by rw[beq_iff_eq,hff,hsp,hq]
       rw[if_pos hq];(simp(disch:=first|decide|omega|(intros;exact aN rfl rfl)|simp only[am]) only[JY,ho,hrd,jd,dw,e1,e3,e5,hpf,hb,go_sem,seval,aO])
      ·have hb:(aT ((s.take (a+k+4+n)).drop (a+k+4)) == (s.take (a+k+4+n)).drop a)=false:=by
        rw[beq_eq_false_iff_ne,hff,hsp];intro he;exact hq (List.append_cancel_left (List.append_cancel_right he))
       rw[if_neg hq];(simp(disch:=first|decide|omega|(intros;exact aN rfl rfl)|simp only[am]) only[JY,ho,hrd,jd,dw,e1,e3,e5,hpf,hb,go_sem,seval,aO])
       try rfl
 ·rw[if_pos (.inl hal)];(simp(disch:=first|decide|omega|(intros;exact aN rfl rfl)|simp only[am]) only[JY,dw,go_sem,seval,aO])
  try rfl
structure Rec where
 at_:Int
 ti:Int
 da:List UInt8
 deriving DecidableEq
def Rec.enc (e:Rec):List D:=[.i .i64 e.at_,.i .i64 e.ti,.s e.da]
theorem Rec.len (e:Rec):e.enc.length=3:=Eq.trans rfl rfl
theorem Rec.tk (e:Rec):e.enc.take 3=e.enc:=Eq.trans rfl rfl
theorem Rec.tkL (e:Rec):(e.enc.map L.d).take 3=e.enc.map L.d:=Eq.trans rfl rfl
theorem Rec.dat (e:Rec):dj (e.enc.map L.d)=some (e.enc.map L.d):=Eq.trans rfl rfl
theorem Rec.rfs (e:Rec):(e.enc.map L.d).flatMap L.refs=[]:=Eq.trans rfl rfl
theorem Rec.rn (e:Rec) (g:Nat->Option Nat):(e.enc.map L.d).map (L.ren g)=e.enc.map L.d:=Eq.trans rfl rfl
theorem Rec.lenL (e:Rec):(e.enc.map L.d).length=3:=Eq.trans rfl rfl
theorem Rec.at0 (e:Rec):e.enc[0]?=some (.i .i64 e.at_):=Eq.trans rfl rfl
theorem Rec.fd0 (e:Rec):(e.enc.map L.d)[0]?=some (zI e.at_):=Eq.trans rfl rfl
theorem Rec.at1 (e:Rec):(e.enc.drop 1)[0]?=some (.i .i64 e.ti):=Eq.trans rfl rfl
theorem Rec.fd1 (e:Rec):(e.enc.map L.d)[1]?=some (zI e.ti):=Eq.trans rfl rfl
theorem Rec.at2 (e:Rec):(e.enc.drop 2)[0]?=some (.s e.da):=Eq.trans rfl rfl
theorem Rec.fd2 (e:Rec):(e.enc.map L.d)[2]?=some (zS e.da):=Eq.trans rfl rfl
def Rec.ok (e:Rec):Prop:=(-9223372036854775808<=e.at_∧e.at_<9223372036854775808)∧(-9223372036854775808<=e.ti∧e.ti<9223372036854775808)∧e.da.length<=9223372036854775807
def Rec.ty:List Ty:=[.i .i64,.i .i64,.s]
theorem Rec.of (r:List D) (h:dg Rec.ty r):∃ e:Rec,r=e.enc∧e.ok:=by
 simp only[Rec.ty,dg,IJ] at h;obtain⟨_,_,rfl,⟨x0,rfl,h0,g0⟩,⟨_,_,rfl,⟨x1,rfl,h1,g1⟩,⟨_,_,rfl,⟨x2,rfl,h2⟩,rfl⟩⟩⟩:=h;refine⟨⟨x0,x1,x2⟩,rfl,?_⟩;exact⟨⟨Int.le_trans (by decide) h0,zK g0 (by decide)⟩,⟨Int.le_trans (by decide) h1,zK g1 (by decide)⟩,h2⟩
def ep (n:Int):Bool:=decide (0<=n) && decide (n<=1099511627776)
def whyF (r:Rec):Int:=if ep r.at_=true∧ep r.ti=true then(if r.da.length<=64 then 0 else 5) else 6
theorem GS {n:Int} (h:ep n=true):0<=n∧n<=1099511627776:=by simpa[ep] using h
theorem yi (n:Int) (hn : -9223372036854775808<=n∧n<9223372036854775808):call 133 [vi n] []=some (vb (!ep n),[]):=by
 apply ae Rk rfl;by_cases c:0<=n
 ·by_cases c2:n<=1099511627776
  ·have e:IntKind.u64.wrap n=n:=oh (by omega)
   have eo:ep n=true:=by simp[ep,c,c2]
   (refine aX ?_ JE.eq_1 e eo;try exact True.intro)
  ·have e:IntKind.u64.wrap n=n:=oh (by omega)
   have eo:ep n=false:=by simp[ep,c,c2]
   (refine aX ?_ JE.eq_1 e eo;try exact True.intro)
 ·have e:IntKind.u64.wrap n=n+18446744073709551616:=by
   show n % 18446744073709551616=_;omega
  have eo:ep n=false:=by simp[ep,c]
  (refine aX ?_ JE.eq_1 e eo;try exact True.intro)
theorem qV (n:Int):call 129 [vi n] []=some (vb (ep n),[]):=by
 apply ae RA rfl;by_cases c:0<=n
 ·(refine aX ?_ LY.eq_1 @ep.eq_1 c;try exact True.intro)
 ·(refine aX ?_ LY.eq_1 @ep.eq_1 c @Bool.false_and;try exact True.intro)
theorem nO (r:Rec) (hr:r.ok):call 96 [.agg (r.enc.map .d)] []=some (vi (whyF r),[]):=by
 apply ae Uk rfl;obtain⟨h1,h2,h3⟩:=hr;have f1:=yi r.at_ h1;have f2:=yi r.ti h2;unfold whyF;cases c1:ep r.at_ with
 | false =>
  rw[c1] at f1;refine aX ?_ Oc.eq_1 @Rec.len @Rec.tk @Rec.fd0 @Rec.fd1 @Rec.fd2 @Rec.at0 @Rec.at1 @Rec.at2 f1 f2;try simp
 | true =>
  cases c2:ep r.ti with
  | false =>
   rw[c1] at f1;rw[c2] at f2;refine aX ?_ Oc.eq_1 @Rec.len @Rec.tk @Rec.fd0 @Rec.fd1 @Rec.fd2 @Rec.at0 @Rec.at1 @Rec.at2 f1 f2;try simp
  | true =>
   rw[c1] at f1;rw[c2] at f2;by_cases c3:r.da.length<=64
   ·refine aX ?_ Oc.eq_1 @Rec.len @Rec.tk @Rec.fd0 @Rec.fd1 @Rec.fd2 @Rec.at0 @Rec.at1 @Rec.at2 f1 f2;try simp[c3]
   ·refine aX ?_ Oc.eq_1 @Rec.len @Rec.tk @Rec.fd0 @Rec.fd1 @Rec.fd2 @Rec.at0 @Rec.at1 @Rec.at2 f1 f2;try simp[c3]
theorem zf (r:Rec) (hr:r.ok):call 89 [.agg (r.enc.map .d)] []=some (vi (whyF r),[]):=by
 apply ae Ue rfl;obtain⟨h1,h2,h3⟩:=hr;have f1:=qV r.at_;have f2:=qV r.ti;unfold whyF;cases c1:ep r.at_ with
 | false =>
  rw[c1] at f1;refine aX ?_ Ot.eq_1 @Rec.len @Rec.tk @Rec.fd0 @Rec.fd1 @Rec.fd2 @Rec.at0 @Rec.at1 @Rec.at2 f1 f2;try simp
 | true =>
  cases c2:ep r.ti with
  | false =>
   rw[c1] at f1;rw[c2] at f2;refine aX ?_ Ot.eq_1 @Rec.len @Rec.tk @Rec.fd0 @Rec.fd1 @Rec.fd2 @Rec.at0 @Rec.at1 @Rec.at2 f1 f2;try simp
  | true =>
   rw[c1] at f1;rw[c2] at f2;by_cases c3:r.da.length<=64
   ·refine aX ?_ Ot.eq_1 @Rec.len @Rec.tk @Rec.fd0 @Rec.fd1 @Rec.fd2 @Rec.at0 @Rec.at1 @Rec.at2 f1 f2;try simp[c3]
   ·refine aX ?_ Ot.eq_1 @Rec.len @Rec.tk @Rec.fd0 @Rec.fd1 @Rec.fd2 @Rec.at0 @Rec.at1 @Rec.at2 f1 f2;try simp[c3]
theorem sY (r:Rec) (hr:r.ok):call 79 [.agg (r.enc.map .d)] []=some (vb (decide (whyF r=0)),[]):=by
 apply ae TO rfl;have h:=nO r hr;(simp(disch:=first|decide|omega|(intros;exact aN rfl rfl)|simp only[am]) only[Tp,Rec.len,Rec.tkL,Rec.dat,Rec.lenL,h,go_sem,seval,aO])
 try rfl
def bH (r:Rec):List UInt8:=ai r.at_.toNat++ai r.ti.toNat++r.da
structure Fit (r:Rec):Prop where
 a0:0<=r.at_
 a1:r.at_<=1099511627776
 t0:0<=r.ti
 t1:r.ti<=1099511627776
 d:r.da.length<=64
theorem lC {r:Rec}:whyF r=0↔Fit r:=by
 unfold whyF;constructor
 ·intro h;split at h
  ·rename_i c;have c1:=GS c.1;have c2:=GS c.2;split at h
   ·exact⟨c1.1,c1.2,c2.1,c2.2,by assumption⟩
   ·cases h
  ·cases h
 ·intro h;have c1:ep r.at_=true:=by simp[ep,h.a0,h.a1]
  have c2:ep r.ti=true:=by simp[ep,h.t0,h.t1]
  rw[if_pos ⟨c1,c2⟩,if_pos h.d]
theorem GB {n:Nat} (h:n<=1099511627776):nd n<=6:=by
 have hp:=fL n;rcases Nat.lt_or_ge 6 (nd n) with h6|h6
 ·have:=(fq (nd n-1) n).1 (by omega)
  rcases this.2 with h0|h0
  ·omega
  ·have:(128:Nat) ^ 6<=128 ^ (nd n-1):=Nat.pow_le_pow_right (by decide) (by omega)
   have e:(128:Nat) ^ 6=4398046511104:=by decide
   omega
 ·exact h6
theorem xX (r:Rec):(bH r).length=nd r.at_.toNat+nd r.ti.toNat+r.da.length:=by simp[bH,nd,Nat.add_assoc]
theorem Fit.blen {r:Rec} (h:Fit r):2<=(bH r).length∧(bH r).length<=76:=by
 have h1:=GB (n:=r.at_.toNat) (by have:=h.a0;have:=h.a1;omega)
 have h2:=GB (n:=r.ti.toNat) (by have:=h.t0;have:=h.t1;omega)
 have h3:=fL r.at_.toNat;have h4:=fL r.ti.toNat;have:=h.d;rw[xX];omega
def putR (r:Rec):V:=if whyF r=0 then .tup [(false,[zS (aT (bH r))]),(false,[zI 0])] else .tup [(false,[.d (.s [])]),(false,[zI (whyF r)])]
theorem ET {n:Int} (h:0<=n) (h1:n<9223372036854775808):call 136 [vi n] []=some (vs (ai n.toNat),[]):=by
 have:=oJ n.toNat (by omega)
 rwa [show((n.toNat:Nat):Int)=n by omega] at this
theorem mY {n:Int} (h:0<=n) (h1:n<9223372036854775808):call 66 [vi n] []=some (vs (ai n.toNat),[]):=by
 have:=hI n.toNat (by omega)
 rwa [show((n.toNat:Nat):Int)=n by omega] at this
theorem Ov {n:Int} (h:0<=n) (h1:n<9223372036854775808):call 131 [vi n] []=some (vi (nd n.toNat),[]):=by
 have:=sZ n.toNat (by omega)
 rwa [show((n.toNat:Nat):Int)=n by omega] at this
theorem y9 (r:Rec) (hr:r.ok):call 99 [.agg (r.enc.map .d)] []=some (putR r,[]):=by
 apply ae TT rfl;have h:=nO r hr;unfold putR;by_cases c:whyF r=0
 ·have hf:=lC.1 c;have hb:=hf.blen;have p:=nk (bH r) (by omega)
  unfold wu at p;rw[if_pos (by omega)] at p
  rw[c] at h;have p1:=ET hf.a0 hr.1.2;have p2:=ET hf.t0 hr.2.1.2;have l1:(ai r.at_.toNat).length<=9:=dD (n:=r.at_.toNat) (by have:=hr.1.2;omega)
  have l2:(ai r.ti.toNat).length<=9:=dD (n:=r.ti.toNat) (by have:=hr.2.1.2;omega)
  have l3:=hf.d;unfold bH at p;rw[if_pos c];(simp(disch:=first|decide|omega|(intros;exact aN rfl rfl)|simp only[am]) only[RJ,Rec.len,Rec.tkL,Rec.dat,Rec.lenL,Rec.fd0,Rec.fd1,Rec.fd2,Rec.at0,Rec.at1,Rec.at2,h,p1,p2,p,bH,go_sem,seval,aO])
 ·rw[if_neg c];(simp(disch:=first|decide|omega|(intros;exact aN rfl rfl)|simp only[am]) only[RJ,Rec.len,Rec.tkL,Rec.dat,Rec.lenL,Rec.fd0,Rec.fd1,Rec.fd2,Rec.at0,Rec.at1,Rec.at2,h,go_sem,seval,aO])
theorem wP (r:Rec) (hr:r.ok) (hf:Fit r):call 90 [.agg (r.enc.map .d)] []=some (vs (bH r),[]):=by
 apply ae Tt rfl;have p1:=mY hf.a0 hr.1.2;have p2:=mY hf.t0 hr.2.1.2;have l1:(ai r.at_.toNat).length<=9:=dD (n:=r.at_.toNat) (by have:=hr.1.2;omega)
 have l2:(ai r.ti.toNat).length<=9:=dD (n:=r.ti.toNat) (by have:=hr.2.1.2;omega)
 have l3:=hf.d;(simp(disch:=first|decide|omega|(intros;exact aN rfl rfl)|simp only[am]) only[SW,Rec.len,Rec.tkL,Rec.dat,Rec.lenL,Rec.fd0,Rec.fd1,Rec.fd2,Rec.at0,Rec.at1,Rec.at2,p1,p2,bH,go_sem,seval,aO])
theorem tf (r:Rec) (hr:r.ok):call 67 [.agg (r.enc.map .d)] []=some (putR r,[]):=by
 apply ae Ud rfl;have h:=zf r hr;unfold putR;by_cases c:whyF r=0
 ·have hf:=lC.1 c;have hb:=hf.blen;have p:=gG (bH r) (by omega)
  unfold wu at p;rw[if_pos (by omega)] at p
  rw[c] at h;have p1:=wP r hr hf;rw[if_pos c];(simp(disch:=first|decide|omega|(intros;exact aN rfl rfl)|simp only[am]) only[Sv,Rec.len,Rec.tkL,Rec.dat,Rec.lenL,Rec.fd0,Rec.fd1,Rec.fd2,Rec.at0,Rec.at1,Rec.at2,h,p1,p,go_sem,seval,aO])
 ·rw[if_neg c];(simp(disch:=first|decide|omega|(intros;exact aN rfl rfl)|simp only[am]) only[Sv,Rec.len,Rec.tkL,Rec.dat,Rec.lenL,Rec.fd0,Rec.fd1,Rec.fd2,Rec.at0,Rec.at1,Rec.at2,h,go_sem,seval,aO])
def gv (r:Rec):Nat:=if whyF r=0 then(aT (bH r)).length else 0
theorem wn (r:Rec) (hr:r.ok):call 91 [.agg (r.enc.map .d)] []=some (vi (gv r),[]):=by
 apply ae TS rfl;have h:=sY r hr;unfold gv;by_cases c:whyF r=0
 ·have hf:=lC.1 c;have hb:=hf.blen;rw[zT c] at h;have p1:=Ov hf.a0 hr.1.2;have p2:=Ov hf.t0 hr.2.1.2;have l1:=dD (n:=r.at_.toNat) (by have:=hr.1.2;omega)
  have l2:=dD (n:=r.ti.toNat) (by have:=hr.2.1.2;omega)
  have l3:=hf.d;have hs:=De ((nd r.at_.toNat:Int)+(nd r.ti.toNat:Int)+(r.da.length:Int));have he:yK ((nd r.at_.toNat:Int)+(nd r.ti.toNat:Int)+(r.da.length:Int))=(((aT (bH r)).length:Nat):Int):=by
   rw[gy];have hl:=xX r;unfold yK;rw[if_pos (by omega),show((nd r.at_.toNat:Int)+(nd r.ti.toNat:Int)+(r.da.length:Int)).toNat=(bH r).length by omega]
   omega
  rw[he] at hs;rw[if_pos c];(simp(disch:=first|decide|omega|(intros;exact aN rfl rfl)|simp only[am]) only[R7,Rec.len,Rec.tkL,Rec.dat,Rec.lenL,Rec.fd0,Rec.fd1,Rec.fd2,Rec.at0,Rec.at1,Rec.at2,h,p1,p2,hs,go_sem,seval,aO])
 ·rw[if_neg c];rw[zF c] at h;(simp(disch:=first|decide|omega|(intros;exact aN rfl rfl)|simp only[am]) only[R7,Rec.len,Rec.tkL,Rec.dat,Rec.lenL,Rec.fd0,Rec.fd1,Rec.fd2,Rec.at0,Rec.at1,Rec.at2,h,go_sem,seval,aO])
  try rfl
theorem rA (r:Rec) (hr:r.ok):call 40 [.agg (r.enc.map .d)] []=some (vi (gv r),[]):=by
 apply ae Ua rfl;have h:=tf r hr;unfold gv;unfold putR at h;by_cases c:whyF r=0
 ·rw[if_pos c] at h ⊢
  (refine aX ?_ SK.eq_1 @Rec.len @Rec.tkL @Rec.dat @Rec.lenL h;try exact True.intro)
 ·rw[if_neg c] at h ⊢
  (refine aX ?_ SK.eq_1 @Rec.len @Rec.tkL @Rec.dat @Rec.lenL h;try exact True.intro)
theorem vG (s:List UInt8) (a:Nat) (g:Bool) (ha:a<9223372036854775808) (hs:s.length<=9223372036854775807) :
  call 195 [.one (.p 0 0),.one (.p 1 0),.one (.p 2 0)] [.cells [zS s],.cells [zI a],.cells [zB g]] =
   some (match j8 (s.drop a) 0 0 with|some (n,k)=>(vi n,[.cells [zS s],.cells [zI ((a+k:Nat):Int)],.cells [zB g]])|none=>(vi 0,[.cells [zS s],.cells [zI 0],.cells [zB false]])):=by
 apply ae Sz rfl;have hr:=mN s a ha hs;cases h:j8 (s.drop a) 0 0 with
 | none =>
  rw[h] at hr;cases g
  ·(simp(disch:=first|decide|omega|(intros;exact aN rfl rfl)|simp only[am]) only[Fi,hr,jd,go_sem,seval,aO])
   try rfl
  ·(simp(disch:=first|decide|omega|(intros;exact aN rfl rfl)|simp only[am]) only[Fi,hr,jd,go_sem,seval,aO])
   try rfl
 | some q =>
  obtain⟨n,k⟩:=q;rw[h] at hr;cases g
  ·(simp(disch:=first|decide|omega|(intros;exact aN rfl rfl)|simp only[am]) only[Fi,hr,jd,go_sem,seval,aO])
   try rfl
  ·(simp(disch:=first|decide|omega|(intros;exact aN rfl rfl)|simp only[am]) only[Fi,hr,jd,go_sem,seval,aO])
   try rfl
def gt (s:List UInt8):Rec × Int:=match j8 s 0 0 with
 | none=>(⟨0,0,[]⟩,3)
 | some (n,k)=>match j8 (s.drop k) 0 0 with
  | none=>(⟨0,0,[]⟩,3)
  | some (m,j)=>if whyF ⟨n,m,s.drop (k+j)⟩=0 then(⟨n,m,s.drop (k+j)⟩,0) else(⟨0,0,[]⟩,whyF ⟨n,m,s.drop (k+j)⟩)
def DV (r:Rec × Int):V:=.tup [(true,r.1.enc.map .d),(false,[zI r.2])]
theorem lm {φ:cm} {f:FuncId} {args args':List V} {H H' H1 H2:Hp} {ids:List Nat} {r r':V} (hi:aF H (args.flatMap V.refs)=ids) (ha:args.map (V.ren (aE ids))=args') (hH:aq H ids=H')
  (hr:φ f args' H'=some (r,H1)) (he:(r.ren (fun j=>if j<ids.length then ids[j]? else some (H.length+(j-ids.length))),bY H ids ((H1.take ids.length).map (Box.ren (fun j=>if j<ids.length then ids[j]? else some (H.length+(j-ids.length)))))++(H1.drop ids.length).map (Box.ren (fun j=>if j<ids.length then ids[j]? else some (H.length+(j-ids.length)))))=(r',H2)) :
  ak φ f args H=some (r',H2):=by
 subst hi;subst ha;subst hH;simp only[ak,hr];rw[he]
theorem Cg {l:List UInt8} {n k:Nat} (h:j8 l 0 0=some (n,k)):n<9223372036854775808:=by
 obtain⟨h1,h2,h3,h4⟩:=fC h;have e:nd n=k:=by unfold nd;rw[<- h4,zQ];omega
 obtain⟨m,hm⟩:∃ m,nd n=m+1:=⟨nd n-1,by have:=fL n;omega⟩
 have:=((fq m n).1 hm).1;have h9:(128:Nat) ^ (m+1)<=128 ^ 9:=Nat.pow_le_pow_right (by decide) (by omega)
 have e9:(128:Nat) ^ 9=9223372036854775808:=by decide
 omega
theorem HN (s:List UInt8) (hs:s.length<=1000000):call 189 [vs s] []=some (DV (gt s),[]):=by
 apply ae Q7 rfl;have g1:=vG s 0 true (by decide) (by omega)
 unfold gt DV;cases h:j8 s 0 0 with
 | none =>
  rw[List.drop_zero,h] at g1;have c1:ak call 195 [.one (.p 0 0),.one (.p 2 0),.one (.p 3 0)] [.cells [zS s],.cells [zI 0,zI 0,.d (.s [])],.cells [zI 0],.cells [zB true]]=some (vi 0,[.cells [zS s],.cells [zI 0,zI 0,.d (.s [])],.cells [zI 0],.cells [zB false]]) :=
   lm rfl rfl rfl g1 rfl
  (simp(disch:=first|decide|omega|(intros;exact aN rfl rfl)|simp only[am]) only[Fq,c1,List.mapM_cons,List.mapM_nil,Option.pure_def,Option.bind_eq_bind,Option.bind_some,List.map_cons,List.map_nil,List.cons_append,List.nil_append,go_sem,seval,aO])
  try rfl
 | some q =>
  obtain⟨n,k⟩:=q;rw[List.drop_zero,h] at g1;obtain⟨b1,b2,b3,b4⟩:=fC h;have hn:=Cg h;simp only[Nat.zero_add] at g1;have c1:ak call 195 [.one (.p 0 0),.one (.p 2 0),.one (.p 3 0)] [.cells [zS s],.cells [zI 0,zI 0,.d (.s [])],.cells [zI 0],.cells [zB true]]=some (vi n,[.cells [zS s],.cells [zI 0,zI 0,.d (.s [])],.cells [zI k],.cells [zB true]]) :=
   lm rfl rfl rfl g1 rfl
  have g2:=vG s k true (by omega) (by omega)
  dsimp only
  cases h2:j8 (s.drop k) 0 0 with
  | none =>
   rw[h2] at g2;have c2:ak call 195 [.one (.p 0 0),.one (.p 2 0),.one (.p 3 0)] [.cells [zS s],.cells [zI 0,zI 0,.d (.s [])],.cells [zI k],.cells [zB true],.cells [zI n,zI 0,.d (.s [])]]=some (vi 0,[.cells [zS s],.cells [zI 0,zI 0,.d (.s [])],.cells [zI 0],.cells [zB false],.cells [zI n,zI 0,.d (.s [])]]) :=
    lm rfl rfl rfl g2 rfl
   (simp(disch:=first|decide|omega|(intros;exact aN rfl rfl)|simp only[am]) only[Fq,c1,c2,List.mapM_cons,List.mapM_nil,Option.pure_def,Option.bind_eq_bind,Option.bind_some,List.map_cons,List.map_nil,List.cons_append,List.nil_append,go_sem,seval,aO])
   try rfl
  | some q2 =>
   obtain⟨m,j⟩:=q2;rw[h2] at g2;obtain⟨d1,d2,d3,d4⟩:=fC h2;have hm:=Cg h2;have d2':k+j<=s.length:=by rw[zH] at d2;omega
   have c2:ak call 195 [.one (.p 0 0),.one (.p 2 0),.one (.p 3 0)] [.cells [zS s],.cells [zI 0,zI 0,.d (.s [])],.cells [zI k],.cells [zB true],.cells [zI n,zI 0,.d (.s [])]]=some (vi m,[.cells [zS s],.cells [zI 0,zI 0,.d (.s [])],.cells [zI ((k+j:Nat):Int)],.cells [zB true],.cells [zI n,zI 0,.d (.s [])]]) :=
    lm rfl rfl rfl g2 rfl
   have ck:call 96 [.agg [zI n,zI m,zS (s.drop (k+j))]] []=some (vi (whyF ⟨n,m,s.drop (k+j)⟩),[]):=nO ⟨n,m,s.drop (k+j)⟩ ⟨⟨by simp only[];omega,by simp only[];omega⟩,⟨by simp only[];omega,by simp only[];omega⟩,by simp;omega⟩
   dsimp only
   by_cases c:whyF ⟨n,m,s.drop (k+j)⟩=0
   ·rw[c] at ck;rw[if_pos c];(simp(disch:=first|decide|omega|(intros;exact aN rfl rfl)|simp only[am]) only[Fq,c1,c2,ck,List.mapM_cons,List.mapM_nil,Option.pure_def,Option.bind_eq_bind,Option.bind_some,List.map_cons,List.map_nil,List.cons_append,List.nil_append,go_sem,seval,aO])
    try rfl
   ·rw[if_neg c];(simp(disch:=first|decide|omega|(intros;exact aN rfl rfl)|simp only[am]) only[Fq,c1,c2,ck,c,List.mapM_cons,List.mapM_nil,Option.pure_def,Option.bind_eq_bind,Option.bind_some,List.map_cons,List.map_nil,List.cons_append,List.nil_append,go_sem,seval,aO])
    try rfl
theorem zg (s:List UInt8) (hs:s.length<=1000000):call 95 [vs s] []=some (DV (gt s),[]):=by
 apply ae UG rfl;have g1:=gi s 0 (by decide) (by omega)
 simp only[List.drop_zero,Int.natCast_zero] at g1;unfold gt DV;cases h:j8 s 0 0 with
 | none =>
  rw[h] at g1;(simp(disch:=first|decide|omega|(intros;exact aN rfl rfl)|simp only[am]) only[Pd,g1,jd,go_sem,seval,aO])
  try rfl
 | some q =>
  obtain⟨n,k⟩:=q;rw[h] at g1;simp only[jd,Nat.zero_add] at g1;obtain⟨b1,b2,b3,b4⟩:=fC h;have hn:=Cg h;have g2:=gi s k (by omega) (by omega)
  dsimp only
  cases h2:j8 (s.drop k) 0 0 with
  | none =>
   rw[h2] at g2;simp only[jd] at g2;refine aX ?_ Pd.eq_1 g1 g2;try rfl
  | some q2 =>
   obtain⟨m,j⟩:=q2;rw[h2] at g2;simp only[jd] at g2;obtain⟨d1,d2,d3,d4⟩:=fC h2;have hm:=Cg h2;have d2':k+j<=s.length:=by rw[zH] at d2;omega
   have ck:call 89 [.agg [zI n,zI m,zS (s.drop (k+j))]] []=some (vi (whyF ⟨n,m,s.drop (k+j)⟩),[]):=zf ⟨n,m,s.drop (k+j)⟩ ⟨⟨by simp only[];omega,by simp only[];omega⟩,⟨by simp only[];omega,by simp only[];omega⟩,by simp;omega⟩
   dsimp only
   by_cases c:whyF ⟨n,m,s.drop (k+j)⟩=0
   ·rw[c] at ck;rw[if_pos c];refine aX ?_ Pd.eq_1 g1 g2 ck;try rfl
   ·rw[if_neg c];refine aX ?_ Pd.eq_1 g1 g2 ck c;try rfl
theorem yM {r:Rec}:gv r<=82:=by
 unfold gv;split
 ·rename_i c;have hf:=(lC.1 c).blen;rw[gy,jg (by omega)];omega
 ·omega
def wh (r:Rec):List UInt8:=aT (bH r)
def rowS (l:List Rec):List UInt8:=l.flatMap wh
theorem ES {r:Rec} (h:whyF r=0):(wh r).length<=82:=by
 have:=yM (r:=r);unfold gv at this;rw[if_pos h] at this;exact this
def Ew (l:List Rec) (n:Int):Bool:=decide ((l.length:Int)<=n) && l.all fun r=>decide (r.da.length<=300)
theorem zw (l:List Rec) (n:Int) (hl:l.length<=9223372036854775807) (hr:∀ r∈l,r.ok):call 25 [vl (l.map Rec.enc),vi n] []=some (vb (Ew l n),[]):=by
 apply ae T6 rfl;by_cases c:(l.length:Int)<=n
 ·have e0:Ew l n=(l.drop 0).all fun r=>decide (r.da.length<=300):=by simp[Ew,c]
  refine aX ?_ QD.eq_1;rw[e0];refine gE (σ:=Nat) (fun i=>l.length-i) (fun i=>i<=l.length) (fun i=>[vl (l.map Rec.enc),vi i]) (fun i=>(vb ((l.drop i).all fun r=>decide (r.da.length<=300)),([]:Hp))) (fun _=>by simp only[go_sem,seval]) ?_ 0 (zP _) _ ?_
  ·intro i hi R hR;rcases Nat.lt_or_ge i l.length with h|h
   ·have hd:=(hr _ (zN h)).2.2;rw[zD h,List.all_cons];by_cases c2:l[i].da.length<=300
    ·rw[zT c2,Bool.true_and];obtain⟨W,hW⟩:∃ W,W=(List.drop (i+1) l).all fun r=>decide (r.da.length<=300):=⟨_,rfl⟩
     rw[<- hW];refine aX ?_ Cv.eq_1 @Rec.len @Rec.tk @Rec.at2;rw[hW];exact hR (i+1) (by first|omega|(simp only[];omega)) (by first|omega|(simp only[];omega)) _ (by simp[go_sem,seval])
    ·rw[zF c2,Bool.false_and]
     (refine aX ?_ Cv.eq_1 @Rec.len @Rec.tk @Rec.at2;try exact True.intro)
   ·rw[zC h]
    (refine aX ?_ Cv.eq_1;try exact True.intro)
  ·simp[go_sem,seval]
 ·refine aX ?_ QD.eq_1 @Ew.eq_1;simp[c]
theorem tH (s:List UInt8) (a:Nat):(fY s a).1.length<=s.length:=by
 unfold fY;repeat' split
 all_goals (try simp)
 all_goals omega
theorem D5 {r:Rec} (h:Fit r):gt (bH r)=(r,0):=by
 have h0:=h.a0;have h1:=h.a1;have h2:=h.t0;have h3:=h.t1;have ea:((r.at_.toNat:Nat):Int)=r.at_:=by omega
 have et:((r.ti.toNat:Nat):Int)=r.ti:=by omega
 have r1:j8 (bH r) 0 0=some (r.at_.toNat,nd r.at_.toNat):=by
  unfold bH;rw[List.append_assoc];exact oK _ _ (by omega)
 have d1:(bH r).drop (nd r.at_.toNat)=ai r.ti.toNat++r.da:=by
  unfold bH nd;rw[List.append_assoc,List.drop_left]
 have r2:j8 (ai r.ti.toNat++r.da) 0 0=some (r.ti.toNat,nd r.ti.toNat):=oK _ _ (by omega)
 have d2:(bH r).drop (nd r.at_.toNat+nd r.ti.toNat)=r.da:=by
  rw[<- List.drop_drop,d1];unfold nd;rw[List.drop_left]
 have er:(⟨((r.at_.toNat:Nat):Int),((r.ti.toNat:Nat):Int),r.da⟩:Rec)=r:=by rw[ea,et]
 unfold gt;rw[r1];simp only[];rw[d1,r2];simp only[];rw[d2,er,if_pos (lC.2 h)]
theorem KE {l:List Rec} (h:∀ r∈l,whyF r=0):(rowS l).length<=82*l.length:=by
 induction l with
 | nil=>simp[rowS]
 | cons r l ih =>
  have h1:=ES (h r (List.mem_cons_self ..));have h2:=ih fun x hx=>h x (List.mem_cons_of_mem _ hx)
  have e:rowS (r::l)=wh r++rowS l:=rfl;rw[e,zA,List.length_cons];omega
def bA:Nat->List UInt8->Nat->Int->List (Rec × Nat) × Nat × Int
 | 0,_,a,_=>([],a,0)
 | f+1,s,a,b=>if s.length<=a then([],a,0) else
  match fY s a with
  | (t,n,e)=>if e=0 then(if(gt t).2=0 then(if(gt t).1.at_=b then(((gt t).1,a)::(bA f s n (b+1)).1,(bA f s n (b+1)).2) else([],a,3)) else([],a,(gt t).2)) else([],a,e)
theorem dL {s t:List UInt8} {a n f:Nat} {b:Int} (ha:a<s.length) (h:fY s a=(t,n,0)) (hg:(gt t).2=0) (hb:(gt t).1.at_=b):bA (f+1) s a b=(((gt t).1,a)::(bA f s n (b+1)).1,(bA f s n (b+1)).2):=by
 simp only[bA];rw[if_neg (by omega),h];simp only[];rw[if_pos trivial,if_pos hg,if_pos hb]
theorem fX {s t:List UInt8} {a n f:Nat} {b:Int} (ha:a<s.length) (h:fY s a=(t,n,0)) (hg:(gt t).2=0) (hb:(gt t).1.at_≠b):bA (f+1) s a b=([],a,3):=by
 simp only[bA];rw[if_neg (by omega),h];simp only[];rw[if_pos trivial,if_pos hg,if_neg hb]
theorem f8 {s t:List UInt8} {a n f:Nat} {b:Int} (ha:a<s.length) (h:fY s a=(t,n,0)) (hg:(gt t).2≠0):bA (f+1) s a b=([],a,(gt t).2):=by
 simp only[bA];rw[if_neg (by omega),h];simp only[];rw[if_pos trivial,if_neg hg]
theorem eV {s t:List UInt8} {a n f:Nat} {e b:Int} (ha:a<s.length) (h:fY s a=(t,n,e)) (he:e≠0):bA (f+1) s a b=([],a,e):=by
 simp only[bA];rw[if_neg (by omega),h];simp only[];rw[if_neg he]
theorem eB {s:List UInt8} {a f:Nat} {b:Int} (ha:s.length<=a):bA f s a b=([],a,0):=by
 cases f with
 | zero=>rfl
 | succ f=>simp only[bA];rw[if_pos ha]
theorem py {s:List UInt8}:∀ (g g' b:Nat) (o:Int),b<=s.length->s.length<b+g->s.length<b+g'->bA g s b o=bA g' s b o:=by
 intro g;induction g with
 | zero=>intro g' b o hb h1 h2;omega
 | succ g ih =>
  intro g' b o hb h1 h2;obtain⟨g2,rfl⟩:∃ g2,g'=g2+1:=⟨g'-1,by omega⟩
  rcases Nat.lt_or_ge b s.length with hbl|hbl
  ·obtain⟨⟨t',n',e'⟩,hx'⟩:∃ x,fY s b=x:=⟨_,rfl⟩;by_cases he':e'=0
   ·subst he';have hok':=oD hx';by_cases hg:(gt t').2=0
    ·by_cases ho:(gt t').1.at_=o
     ·rw[dL hbl hx' hg ho,dL hbl hx' hg ho,ih g2 n' _ hok'.2 (by omega) (by omega)]
     ·rw[fX hbl hx' hg ho,fX hbl hx' hg ho]
    ·rw[f8 hbl hx' hg,f8 hbl hx' hg]
   ·rw[eV hbl hx' he',eV hbl hx' he']
  ·rw[eB hbl,eB hbl]
theorem EF (n:Int) (hn : -9223372036854775808<=n∧n<9223372036854775808):call 173 [vi n] []=some (vb (ep n),[]):=by
 apply ae Sn rfl;unfold ep;by_cases c:0<=n
 ·have e:IntKind.u64.wrap n=n:=oh ⟨c,by omega⟩
  by_cases c2:n<=1099511627776
  ·(refine aX ?_ K7.eq_1 e c c2;try exact True.intro)
  ·(refine aX ?_ K7.eq_1 e c c2;try exact True.intro)
 ·have e:IntKind.u64.wrap n=n+18446744073709551616:=by
   simp[IntKind.wrap,IntKind.bits,IntKind.signed];omega
  (refine aX ?_ K7.eq_1 e c @Bool.false_and;try exact True.intro)
theorem xm (xs:List L):call 174 [.one (.p 0 0)] [.cells xs]=some (.one (.f 187 [1]),[.cells xs,.cells [.p 0 0]]):=by
 apply ae QJ rfl;(simp(disch:=first|decide|omega|(intros;exact aN rfl rfl)|simp only[am]) only[OV,List.mapM_cons,List.mapM_nil,Option.pure_def,Option.bind_eq_bind,Option.bind_some,go_sem,seval,aO])
 simp[trim,V.refs,L.refs]
def iw (r:List (Rec × Nat) × Nat × Int):V:=.tup [(false,[.d (.l (r.1.map fun x=>x.1.enc))]),(false,[zI ((r.2.1:Nat):Int)]),(false,[zI r.2.2])]
def fb (s:List UInt8) (b:Int):List (Rec × Nat) × Nat × Int:=if ep b=true then bA (s.length+1) s 0 b else([],0,1)
def rF (l:List (Rec × Nat)):L:=match l with|[]=>.ns|_=>.sl 4 3 0 l.length
def rC (l:List (Rec × Nat)):Hp:=match l with|[]=>[]|_=>[.arr 3 (l.map fun x=>x.1.enc) 0]
theorem EP (s:List UInt8) (hs:s.length<=1000000) (b:Int) (hb : -9223372036854775808<=b∧b<9223372036854775808):call 147 [vs s,vi b] []=some (iw (fb s b),[]):=by
 apply Mi QQ rfl;have hg:=EF b hb;unfold fb iw;cases h:ep b with
 | false =>
  rw[h] at hg;(simp(disch:=first|decide|omega|(intros;exact aN rfl rfl)|simp only[am]) only[M0,hg,go_sem,seval,aO,gc,A.kind,A.xs,bX,A.isN,ux])
  try simp
 | true =>
  rw[h] at hg;have c1:ak call 174 [.one (.p 0 0)] [.cells [zS s,zI 0,zI b,zI 0],.cells [.ns]]=some (.one (.f 187 [2]),[.cells [zS s,zI 0,zI b,zI 0],.cells [.ns],.cells [.p 0 0]]) :=
   aD rfl rfl rfl (xm _) rfl
  (simp(disch:=first|decide|omega|(intros;exact aN rfl rfl)|simp only[am]) only[M0,hg,c1,go_sem,seval,aO,gc,A.kind,A.xs,bX,A.isN,ux])
  rw[Mz (gf:=187) (caps:=[2]) (af:=NP) (by rfl) Sc rfl]
  generalize hψ:fR call _ _ _ _=ψ;(simp(disch:=first|decide|omega|(intros;exact aN rfl rfl)|simp only[am]) only[NP,go_sem,seval,aO,gc,A.kind,A.xs,bX,A.isN,i6,↓cW,↓cG])
  have hr:=fun(v:V) (H:Hp)=>(congrFun (congrFun hψ.symm [v]) H).trans (BX _ _ _ _ _ [v] H rfl)
  clear hψ;have hb2:0<=b∧b<=1099511627776:=by simpa[ep] using h
  refine Di (N:=82) (m:=4) (σ:=Nat × Int × List (Rec × Nat)) (fun t=>s.length-t.1) (fun t=>t.1<=s.length∧t.2.2.length<=t.1∧t.2.1=b+t.2.2.length) (fun t=>[V.one (.y 3 0),V.one (.p 2 0)])
   (fun t=>[.cells [zS s,zI t.1,zI t.2.1,zI 0],.cells [rF t.2.2],.cells [.p 0 0],.dead]++rC t.2.2)
   (fun t=>(iw (t.2.2++(bA (s.length+1-t.1) s t.1 t.2.1).1,(bA (s.length+1-t.1) s t.1 t.2.1).2),([]:Hp))) ?_ (0,b,[]) ⟨zP _,by simp,by simp⟩ _ _ bO
  rintro⟨a,nx,out⟩ ⟨ha,hout,hnx⟩ R hR;simp only at ha hout hnx;rcases Nat.lt_or_ge a s.length with h|h
  ·obtain⟨f,hf⟩:∃ f,s.length+1-a=f+1:=⟨s.length-a,by omega⟩
   have hn:=Ep s a (by omega) (by omega)
   have htl:=tH s a;obtain⟨⟨t,n,e⟩,hx⟩:∃ x,fY s a=x:=⟨_,rfl⟩;rw[hx] at hn htl;by_cases he:e=0
   ·subst he;have hok:=oD hx;have hg:=HN t (by simp only[] at htl;omega)
    have hst := @dL s t a n f nx h hx;have hof := @fX s t a n f nx h hx;have hbd := @f8 s t a n f nx h hx;obtain⟨⟨r,g⟩,hq⟩:∃ x,gt t=x:=⟨_,rfl⟩;rw[hq] at hg hst hof hbd;simp only[DV] at hg hst hbd hof;by_cases hz:g=0
    ·subst hz;by_cases ho:r.at_=nx
     ·simp only[hf,hst rfl ho];subst ho;have e3:bA f s n (r.at_+1)=bA (s.length+1-n) s n (r.at_+1):=py _ _ n _ hok.2 (by omega) (by omega)
      rcases out with _|⟨x,out⟩
      ·simp only[List.length_nil] at hnx hout;(simp(disch:=first|decide|omega|(intros;exact aN rfl rfl)|simp only[am]) only[jc,hn,dw,hg,Rec.len,Rec.tk,Rec.tkL,Rec.dat,Rec.lenL,Rec.enc,List.map_cons,List.map_nil,List.getElem?_cons_zero,rF,rC,List.append_nil,go_sem,seval,aO,gc,A.kind,A.xs,bX,A.isN,i6,↓cW,↓cG])
       rw[hr];(simp(disch:=first|decide|omega|(intros;exact aN rfl rfl)|simp only[am]) only[i6,go_sem,seval,aO,gc,A.kind,A.xs,bX,A.isN])
       (simp(disch:=first|decide|omega|(intros;exact aN rfl rfl)|simp only[am]) only[go_sem,seval,aO,gc,A.kind,A.xs,bX,A.isN,i6,↓cW,↓cG])
       have hR':=hR (n,r.at_+1,[(r,a)]) (by simp only[];omega) ⟨hok.2,by simp;omega,by simp;omega⟩
       simp only[List.singleton_append,<- e3] at hR';exact hR' _ _ bO
      ·simp only[List.length_cons] at hnx hout;(simp(disch:=first|decide|omega|(intros;exact aN rfl rfl)|simp only[am]) only[jc,hn,dw,hg,Rec.len,Rec.tk,Rec.tkL,Rec.dat,Rec.lenL,Rec.enc,List.map_cons,List.map_nil,List.getElem?_cons_zero,rF,rC,List.append_nil,go_sem,seval,aO,gc,A.kind,A.xs,bX,A.isN,i6,↓cW,↓cG])
       rw[hr];(simp(disch:=first|decide|omega|(intros;exact aN rfl rfl)|simp only[am]) only[i6,go_sem,seval,aO,gc,A.kind,A.xs,bX,A.isN])
       (simp(disch:=first|decide|omega|(intros;exact aN rfl rfl)|simp only[am]) only[go_sem,seval,aO,gc,A.kind,A.xs,bX,A.isN,i6,↓cW,↓cG])
       have hR':=hR (n,r.at_+1,(x::out)++[(r,a)]) (by simp only[];omega) ⟨hok.2,by simp;omega,by simp;omega⟩
       simp only[List.append_assoc,List.singleton_append,<- e3,rF,rC,List.cons_append,List.length_cons,zA,List.length_nil,Nat.zero_add,List.map_cons,List.map_append,List.map_nil,Rec.enc] at hR';exact hR' _ _ bO
     ·simp only[hf,hof rfl ho];rcases out with _|⟨x,out⟩
      ·(simp(disch:=first|decide|omega|(intros;exact aN rfl rfl)|simp only[am]) only[jc,hn,dw,hg,Rec.len,Rec.tk,Rec.tkL,Rec.dat,Rec.lenL,Rec.enc,List.map_cons,List.map_nil,List.getElem?_cons_zero,rF,rC,List.append_nil,ho,go_sem,seval,aO,gc,A.kind,A.xs,bX,A.isN,i6,↓cW,↓cG])
       rw[pJ (q:=3) (k:=0) (by decide) rfl]
       (simp(disch:=first|decide|omega|(intros;exact aN rfl rfl)|simp only[am]) only[i6,Rec.len,Rec.tk,Rec.tkL,Rec.dat,Rec.lenL,Rec.enc,List.map_cons,List.map_nil,go_sem,seval,aO,gc,A.kind,A.xs,bX,A.isN,ux])
       simp[iw,Rec.enc]
      ·simp only[List.length_cons] at hnx hout;(simp(disch:=first|decide|omega|(intros;exact aN rfl rfl)|simp only[am]) only[jc,hn,dw,hg,Rec.len,Rec.tk,Rec.tkL,Rec.dat,Rec.lenL,Rec.enc,List.map_cons,List.map_nil,List.getElem?_cons_zero,rF,rC,List.append_nil,ho,go_sem,seval,aO,gc,A.kind,A.xs,bX,A.isN,i6,↓cW,↓cG])
       rw[pJ (q:=3) (k:=0) (by decide) rfl]
       (simp(disch:=first|decide|omega|(intros;exact aN rfl rfl)|simp only[am]) only[i6,Rec.len,Rec.tk,Rec.tkL,Rec.dat,Rec.lenL,Rec.enc,List.map_cons,List.map_nil,go_sem,seval,aO,gc,A.kind,A.xs,bX,A.isN,ux])
       simp[iw,Rec.enc]
    ·simp only[hf,hbd hz];rcases out with _|⟨x,out⟩
     ·(simp(disch:=first|decide|omega|(intros;exact aN rfl rfl)|simp only[am]) only[jc,hn,dw,hg,Rec.len,Rec.tk,Rec.tkL,Rec.dat,Rec.lenL,Rec.enc,List.map_cons,List.map_nil,List.getElem?_cons_zero,rF,rC,List.append_nil,hz,go_sem,seval,aO,gc,A.kind,A.xs,bX,A.isN,i6,↓cW,↓cG])
      rw[pJ (q:=3) (k:=0) (by decide) rfl]
      (simp(disch:=first|decide|omega|(intros;exact aN rfl rfl)|simp only[am]) only[i6,Rec.len,Rec.tk,Rec.tkL,Rec.dat,Rec.lenL,Rec.enc,List.map_cons,List.map_nil,go_sem,seval,aO,gc,A.kind,A.xs,bX,A.isN,ux])
      simp[iw,Rec.enc]
     ·simp only[List.length_cons] at hnx hout;(simp(disch:=first|decide|omega|(intros;exact aN rfl rfl)|simp only[am]) only[jc,hn,dw,hg,Rec.len,Rec.tk,Rec.tkL,Rec.dat,Rec.lenL,Rec.enc,List.map_cons,List.map_nil,List.getElem?_cons_zero,rF,rC,List.append_nil,hz,go_sem,seval,aO,gc,A.kind,A.xs,bX,A.isN,i6,↓cW,↓cG])
      rw[pJ (q:=3) (k:=0) (by decide) rfl]
      (simp(disch:=first|decide|omega|(intros;exact aN rfl rfl)|simp only[am]) only[i6,Rec.len,Rec.tk,Rec.tkL,Rec.dat,Rec.lenL,Rec.enc,List.map_cons,List.map_nil,go_sem,seval,aO,gc,A.kind,A.xs,bX,A.isN,ux])
      simp[iw,Rec.enc]
   ·simp only[hf,eV h hx he];rcases out with _|⟨x,out⟩
    ·(simp(disch:=first|decide|omega|(intros;exact aN rfl rfl)|simp only[am]) only[jc,hn,dw,hg,Rec.len,Rec.tk,Rec.tkL,Rec.dat,Rec.lenL,Rec.enc,List.map_cons,List.map_nil,List.getElem?_cons_zero,rF,rC,List.append_nil,he,go_sem,seval,aO,gc,A.kind,A.xs,bX,A.isN,i6,↓cW,↓cG])
     rw[pJ (q:=3) (k:=0) (by decide) rfl]
     (simp(disch:=first|decide|omega|(intros;exact aN rfl rfl)|simp only[am]) only[i6,Rec.len,Rec.tk,Rec.tkL,Rec.dat,Rec.lenL,Rec.enc,List.map_cons,List.map_nil,go_sem,seval,aO,gc,A.kind,A.xs,bX,A.isN,ux])
     simp[iw,Rec.enc]
    ·simp only[List.length_cons] at hnx hout;(simp(disch:=first|decide|omega|(intros;exact aN rfl rfl)|simp only[am]) only[jc,hn,dw,hg,Rec.len,Rec.tk,Rec.tkL,Rec.dat,Rec.lenL,Rec.enc,List.map_cons,List.map_nil,List.getElem?_cons_zero,rF,rC,List.append_nil,he,go_sem,seval,aO,gc,A.kind,A.xs,bX,A.isN,i6,↓cW,↓cG])
     rw[pJ (q:=3) (k:=0) (by decide) rfl]
     (simp(disch:=first|decide|omega|(intros;exact aN rfl rfl)|simp only[am]) only[i6,Rec.len,Rec.tk,Rec.tkL,Rec.dat,Rec.lenL,Rec.enc,List.map_cons,List.map_nil,go_sem,seval,aO,gc,A.kind,A.xs,bX,A.isN,ux])
     simp[iw,Rec.enc]
  ·rw[eB h];have ea:a=s.length:=by omega
   rcases out with _|⟨x,out⟩
   ·(simp(disch:=first|decide|omega|(intros;exact aN rfl rfl)|simp only[am]) only[jc,Rec.len,Rec.tk,Rec.tkL,Rec.dat,Rec.lenL,Rec.enc,List.map_cons,List.map_nil,List.getElem?_cons_zero,rF,rC,List.append_nil,ea,go_sem,seval,aO,gc,A.kind,A.xs,bX,A.isN,i6,↓cW,↓cG])
    rw[Gg (q:=3) (k:=0) (by decide) rfl]
    (simp(disch:=first|decide|omega|(intros;exact aN rfl rfl)|simp only[am]) only[i6,Rec.len,Rec.tk,Rec.tkL,Rec.dat,Rec.lenL,Rec.enc,List.map_cons,List.map_nil,go_sem,seval,aO,gc,A.kind,A.xs,bX,A.isN,ux])
    simp[iw,Rec.enc]
   ·simp only[List.length_cons] at hnx hout;(simp(disch:=first|decide|omega|(intros;exact aN rfl rfl)|simp only[am]) only[jc,Rec.len,Rec.tk,Rec.tkL,Rec.dat,Rec.lenL,Rec.enc,List.map_cons,List.map_nil,List.getElem?_cons_zero,rF,rC,List.append_nil,ea,go_sem,seval,aO,gc,A.kind,A.xs,bX,A.isN,i6,↓cW,↓cG])
    rw[Gg (q:=3) (k:=0) (by decide) rfl]
    (simp(disch:=first|decide|omega|(intros;exact aN rfl rfl)|simp only[am]) only[i6,Rec.len,Rec.tk,Rec.tkL,Rec.dat,Rec.lenL,Rec.enc,List.map_cons,List.map_nil,go_sem,seval,aO,gc,A.kind,A.xs,bX,A.isN,ux])
    simp[iw,Rec.enc]
def Mn (x:Rec × Nat):List D:=[.i .i64 x.2]
def iI (r:List (Rec × Nat) × Nat × Int):V:=.tup [(false,[.d (.l (r.1.map fun x=>x.1.enc))]),(false,[.d (.l (r.1.map Mn))]),(false,[zI ((r.2.1:Nat):Int)]),(false,[zI r.2.2])]
theorem yk (s:List UInt8) (hs:s.length<=1000000) (b:Int) (hb : -9223372036854775808<=b∧b<9223372036854775808):call 77 [vs s,vi b] []=some (iI (fb s b),[]):=by
 apply ae Tw rfl;unfold fb;cases ho:ep b with
 | false =>
  by_cases c0:b<0
  ·refine aX ?_ Qh.eq_1 c0;simp[iI]
  ·have c1:¬ b<=1099511627776:=by simpa[ep,Int.not_lt.1 c0] using ho
   refine aX ?_ Qh.eq_1 c0 c1;simp[iI]
 | true =>
  have hb2:0<=b∧b<=1099511627776:=by simpa[ep] using ho
  refine aX ?_ Qh.eq_1;refine i8 (σ:=Nat × Int × List (Rec × Nat)) (fun t=>s.length-t.1) (fun t=>t.1<=s.length∧t.2.2.length<=t.1∧t.2.1=b+t.2.2.length) (fun t=>[vs s,vi b,.one (.sl 0 3 0 t.2.2.length),.one (.sl 1 1 0 t.2.2.length),vi t.1]) (fun t=>[.arr 3 (t.2.2.map fun x=>x.1.enc) 0,.arr 1 (t.2.2.map Mn) 0])
   (fun t=>(iI (t.2.2++(bA (s.length+1-t.1) s t.1 t.2.1).1,(bA (s.length+1-t.1) s t.1 t.2.1).2),([]:Hp))) ?_ (0,b,[]) ⟨zP _,by simp,by simp⟩ _ _ (at_head2 (by decide) (by simp only[List.map_cons,List.map_nil,go_sem,seval];exact rfl) (by simp[aF,aB,au,aC,aq,V.ren,L.ren,Box.ren,V.refs,L.refs,Box.refs,true_and]) (by simp[aF,aB,au,aC,aq,V.ren,L.ren,Box.ren,V.refs,L.refs,Box.refs,true_and]))
  rintro⟨a,nx,out⟩ ⟨ha,hout,hnx⟩ R hR;simp only at ha hout hnx;rcases Nat.lt_or_ge a s.length with h|h
  ·obtain⟨f,hf⟩:∃ f,s.length+1-a=f+1:=⟨s.length-a,by omega⟩
   have hn:=ws s a (by omega) (by omega)
   have htl:=tH s a;obtain⟨⟨t,n,e⟩,hx⟩:∃ x,fY s a=x:=⟨_,rfl⟩;rw[hx] at hn htl;by_cases he:e=0
   ·subst he;have hok:=oD hx;have hg:=zg t (by simp only[] at htl;omega)
    have hst := @dL s t a n f nx h hx;have hof := @fX s t a n f nx h hx;have hbd := @f8 s t a n f nx h hx;obtain⟨⟨r,g⟩,hq⟩:∃ x,gt t=x:=⟨_,rfl⟩;rw[hq] at hg hst hof hbd;simp only[DV] at hg hst hof hbd;by_cases hz:g=0
    ·subst hz;by_cases ho:r.at_=nx
     ·simp only[hf,hst rfl ho];have e3:bA f s n (nx+1)=bA (s.length+1-n) s n (nx+1):=py _ _ n _ hok.2 (by omega) (by omega)
      have hm:List.map (fun x:Rec × Nat=>x.1.enc) out++[r.enc]=List.map (fun x=>x.1.enc) (out++[(r,a)]):=by simp
      have hm2:List.map Mn out++[[D.i IntKind.i64 a]]=List.map Mn (out++[(r,a)]):=by simp[Mn]
      have fd:(r.enc.map L.d)[0]?=some (zI nx):=by rw[Rec.fd0,ho]
      (simp(disch:=first|decide|omega|(intros;exact aN rfl rfl)|simp only[am]) only[uK,hn,dw,hg,Rec.len,Rec.tk,Rec.tkL,Rec.dat,Rec.lenL,fd,<- hnx,go_sem,seval,aO])
      have hR':=hR (n,nx+1,out++[(r,a)]) (by simp only[];omega) ⟨hok.2,by simp;omega,by simp;omega⟩
      simp only[List.append_assoc,List.singleton_append,zA,List.length_cons,List.length_nil,Nat.zero_add,Int.natCast_add,Int.natCast_one,<- Int.add_assoc,<- e3] at hR';exact hR' _ _ (at_head2 (by decide) (by simp only[List.map_cons,List.map_nil,go_sem,seval];exact rfl) (by simp[aF,aB,au,aC,aq,V.ren,L.ren,Box.ren,V.refs,L.refs,Box.refs,Rec.rfs,Rec.rn,Mn]) (by simp[aF,aB,au,aC,aq,V.ren,L.ren,Box.ren,V.refs,L.refs,Box.refs,Rec.rfs,Rec.rn,Mn]))
     ·simp only[hf,hof rfl ho];(simp(disch:=first|decide|omega|(intros;exact aN rfl rfl)|simp only[am]) only[uK,hn,dw,hg,iI,Rec.len,Rec.tk,Rec.tkL,Rec.dat,Rec.lenL,Rec.fd0,ho,<- hnx,go_sem,seval,aO])
      try simp
    ·simp only[hf,hbd hz];refine aX ?_ uK.eq_1 hn @dw.eq_1 hg @iI.eq_1 @Rec.len @Rec.tk @Rec.tkL @Rec.dat @Rec.lenL;try simp
   ·simp only[hf,eV h hx he];refine aX ?_ uK.eq_1 hn @dw.eq_1 @iI.eq_1;try simp
  ·have hal:a=s.length:=by omega
   subst hal;simp only[eB (Nat.le_refl _)];refine aX ?_ uK.eq_1 @iI.eq_1;try simp
theorem wA (s:List UInt8) (hs:s.length<=1000000) (b:Int) (hb : -9223372036854775808<=b∧b<9223372036854775808):call 54 [vs s,vi b] []=some (iw (fb s b),[]):=by
 apply ae Tx rfl;have hp:=yk s hs b hb;unfold iI at hp
 (refine aX ?_ ST.eq_1 hp @iw.eq_1;try exact True.intro)
theorem yl {s:List UInt8}:∀ (f a:Nat) (b:Int),a<=s.length->(bA f s a b).1.length+a<=s.length:=by
 intro f;induction f with
 | zero=>intro a b h;simpa[bA] using h
 | succ f ih =>
  intro a b h;rcases Nat.lt_or_ge a s.length with hal|hal
  ·obtain⟨⟨t,n,e⟩,hx⟩:∃ x,fY s a=x:=⟨_,rfl⟩;by_cases he:e=0
   ·subst he;have:=oD hx;by_cases hg:(gt t).2=0
    ·by_cases ho:(gt t).1.at_=b
     ·rw[dL hal hx hg ho];have:=ih n (b+1) (by omega)
      simp only[List.length_cons];omega
     ·rw[fX hal hx hg ho];simpa using h
    ·rw[f8 hal hx hg];simpa using h
   ·rw[eV hal hx he];simpa using h
  ·rw[eB hal];simpa using h
theorem uC (s:List UInt8) (b:Int):(fb s b).1.length<=s.length:=by
 unfold fb;split
 ·have:=yl (s:=s) (s.length+1) 0 b (zP _);omega
 ·simp
def numB (b:Int) (l:List Rec):Prop:=∀ k (h:k<l.length),l[k].at_=b+k
theorem EW {b:Int} {r:Rec} {l:List Rec} (h:numB b (r::l)):r.at_=b∧numB (b+1) l:=by
 constructor
 ·have:=h 0 (by simp);simpa using this
 ·intro k hk;have:=h (k+1) (by simpa using hk)
  simp only[List.getElem_cons_succ] at this;rw[this];omega
theorem qx (r:Rec) (l:List Rec):rowS (r::l)=aT (bH r)++rowS l:=rfl
theorem zx:∀ (l:List Rec) (p q:List UInt8) (f:Nat) (b:Int),(∀ r∈l,whyF r=0)->numB b l->l.length<=f ->
  (bA f (p++(rowS l++q)) p.length b).1.map (·.1)=l++(bA (f-l.length) (p++(rowS l++q)) (p++rowS l).length (b+l.length)).1.map (·.1) ∧
  (bA f (p++(rowS l++q)) p.length b).2=(bA (f-l.length) (p++(rowS l++q)) (p++rowS l).length (b+l.length)).2:=by
 intro l;induction l with
 | nil =>
  intro p q f b _ _ _;have:rowS []=[]:=rfl;simp[this]
 | cons r l ih =>
  intro p q f b hw hn hf;obtain⟨g,rfl⟩:∃ g,f=g+1:=⟨f-1,by simp at hf;omega⟩
  have w0:=hw r (List.mem_cons_self ..);have hfit:=lC.1 w0;have hb:=hfit.blen;have hp:=uF (bH r);have hx:=zd p (bH r) (rowS l++q) (by omega) (by omega)
  have hg:=D5 hfit;have hnn:=EW hn;have e0:p++(rowS (r::l)++q)=p++(aT (bH r)++(rowS l++q)):=by rw[qx];simp
  have e1:p++(aT (bH r)++(rowS l++q))=(p++aT (bH r))++(rowS l++q):=by simp
  have e2:(p++aT (bH r))++rowS l=p++rowS (r::l):=by rw[qx];simp
  have hlt:p.length<(p++(aT (bH r)++(rowS l++q))).length:=by simp;omega
  have:=ih (p++aT (bH r)) q g (b+1) (fun x hx=>hw x (List.mem_cons_of_mem _ hx)) hnn.2 (by simp at hf;omega)
  have hlen:(p++aT (bH r)).length=p.length+(aT (bH r)).length:=zA;rw[<- e1,e2,hlen] at this;rw[e0,dL hlt hx (by rw[hg]) (by rw[hg];exact hnn.1),hg]
  have e3:g+1-(r::l).length=g-l.length:=by simp
  have e4:b+((r::l).length:Int)=b+1+(l.length:Int):=by simp;omega
  rw[e3,e4];exact⟨by simp only[List.map_cons,this.1,List.cons_append],this.2⟩
theorem CR:∀ l:List Rec,l.length<=(rowS l).length
 | []=>by simp
 | r::l=>by
  have:=CR l;have hp:=uF (bH r);rw[qx,zA,List.length_cons];omega
theorem GJ (l:List Rec) (b:Int) (hb:ep b=true) (hw:∀ r∈l,whyF r=0) (hn:numB b l):(fb (rowS l) b).1.map (·.1)=l∧(fb (rowS l) b).2=((rowS l).length,0):=by
 have hge:=CR l;have h:=zx l [] [] ((rowS l).length+1) b hw hn (by omega)
 simp only[List.nil_append,List.append_nil,List.length_nil] at h;rw[eB (f:=(rowS l).length+1-l.length) (Nat.le_refl _)] at h;unfold fb;rw[if_pos hb];exact⟨by simpa using h.1,h.2⟩
end Go.Proofs.YtgoifbjgmgbihaaGreat
