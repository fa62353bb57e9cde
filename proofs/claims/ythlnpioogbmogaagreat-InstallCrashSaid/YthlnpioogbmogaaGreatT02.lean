import Derived.Test.YthlnpioogbmogaaGreatXZ15Tab
import Derived.Test.YthlnpioogbmogaaGreatVid
set_option linter.unusedSimpArgs false
set_option linter.unusedVariables false
namespace Go.Proofs.YthlnpioogbmogaaGreat
open Go.Vi
theorem refOn_spec (sum:W32) (s:List UInt8) (hs:s.length<=9223372036854775807):call 85 [vk .u32 ((sum.toNat:Nat):Int),vs s] []=some (vk .u32 (((crcOn sum s).toNat:Nat):Int),[]):=by
 apply enterS s85 rfl;(simp(disch:=first|decide|omega|(intros;exact Eq.trans rfl rfl)|simp only[puri]) only[a85,↓bit32,go_sem,seval,dis])
 refine loop_data (σ:=Nat) (fun k=>s.length-k) (fun k=>k<=s.length) (fun k=>[vs s,vk .u32 ((((s.take k).foldl crcB (~~~sum)).toNat:Nat):Int),vi k]) (fun _=>(vk .u32 (((crcOn sum s).toNat:Nat):Int),[])) (fun _=>by simp only[go_sem,seval]) ?_ 0 (Nat.zero_le _) _ (by simp[go_sem,seval])
 intro k hk R hR;rcases Nat.lt_or_ge k s.length with h|h
 ·(simp(disch:=first|decide|omega|(intros;exact Eq.trans rfl rfl)|simp only[puri]) only[a85_0,↓bit32,str_get s k h,cvi32_byte,go_sem,seval,dis])
  have e1:(s.take (k+1)).foldl crcB (~~~sum)=crcB ((s.take k).foldl crcB (~~~sum)) s[k]:=by rw[take_succ_get s k h,List.foldl_append];rfl
  generalize (s.take k).foldl crcB (~~~sum)=x at *;refine loop_data (σ:=Nat) (fun j=>8-j) (fun j=>j<=8) (fun j=>[vs s,vk .u32 (((crcN j (x ^^^ BitVec.ofNat 32 s[k].toNat)).toNat:Nat):Int),vi k,vi j]) (fun _=>(vk .u32 (((crcOn sum s).toNat:Nat):Int),[])) (fun _=>by simp only[go_sem,seval]) ?_ 0 (Nat.zero_le _) _ (by simp[crcN,go_sem,seval])
  intro j hj R2 hR2;rcases Nat.lt_or_ge j 8 with hj8|hj8
  ·have e2:crcN (j+1) (x ^^^ BitVec.ofNat 32 s[k].toNat)=crc1 (crcN j (x ^^^ BitVec.ofNat 32 s[k].toNat)):=crcN_add j 1 _;generalize crcN j (x ^^^ BitVec.ofNat 32 s[k].toNat)=y at *;cases hb:y.getLsbD 0 with
   | true =>
    have e3:crc1 y=(y >>> 1) ^^^ crcP:=by unfold crc1;rw[hb];rfl
    (simp(disch:=first|decide|omega|(intros;exact Eq.trans rfl rfl)|simp only[puri]) only[a85_1,↓bit32,hb,go_sem,seval,dis])
    exact hR2 (j+1) (by omega) (by omega) _ (by simp[e2,e3,go_sem,seval])
   | false =>
    have e3:crc1 y=y >>> 1:=by unfold crc1;rw[hb];rfl
    (simp(disch:=first|decide|omega|(intros;exact Eq.trans rfl rfl)|simp only[puri]) only[a85_1,↓bit32,hb,go_sem,seval,dis])
    exact hR2 (j+1) (by omega) (by omega) _ (by simp[e2,e3,go_sem,seval])
  ·have:j=8:=by omega
   subst this;(simp(disch:=first|decide|omega|(intros;exact Eq.trans rfl rfl)|simp only[puri]) only[a85_1,go_sem,seval,dis])
   exact hR (k+1) (by omega) (by omega) _ (by simp[e1,crcB,go_sem,seval])
 ·(simp(disch:=first|decide|omega|(intros;exact Eq.trans rfl rfl)|simp only[puri]) only[a85_0,↓bit32,go_sem,seval,dis])
  rw[List.take_of_length_le h];rfl
theorem refOf_spec (s:List UInt8) (hs:s.length<=9223372036854775807):call 43 [vs s] []=some (vk .u32 (((crcOn 0#32 s).toNat:Nat):Int),[]):=by
 apply enterS s43 rfl;have h:call 85 [vk .u32 0,vs s] []=some (vk .u32 (((crcOn 0#32 s).toNat:Nat):Int),[]):=refOn_spec 0#32 s hs;(simp(disch:=first|decide|omega|(intros;exact Eq.trans rfl rfl)|simp only[puri]) only[a43,h,go_sem,seval,dis])
theorem four_spec (x:W32):call 134 [vk .u32 ((x.toNat:Nat):Int)] []=some (vs (four x),[]):=by
 apply enterS s134 rfl;(simp(disch:=first|decide|omega|(intros;exact Eq.trans rfl rfl)|simp only[puri]) only[a134,↓bit32,wrap8_nat,bytesOf_nil,bytesOf_cons,byte_mod,four,List.replicate,go_sem,seval,dis])
theorem refFour_spec (x:W32):call 123 [vk .u32 ((x.toNat:Nat):Int)] []=some (vs (four x),[]):=by
 apply enterS s123 rfl;(simp(disch:=first|decide|omega|(intros;exact Eq.trans rfl rfl)|simp only[puri]) only[a123,↓bit32,wrap8_nat,bytesOf_nil,bytesOf_cons,byte_mod,four,List.replicate,go_sem,seval,dis])
theorem table_spec:call 105 [] []=some (.agg tabW,[]):=by
 apply enterS s105 rfl;(simp(disch:=first|decide|omega|(intros;exact Eq.trans rfl rfl)|simp only[puri]) only[a105,go_sem,seval,dis])
 refine loop_box (σ:=Nat) (fun k=>16-k) (fun k=>k<=16) (fun k=>[.one (.p 0 0),.one (.p 1 0),vi k]) (fun k=>[.cells (tabK 0),.cells (tabK k)]) (fun _=>(V.agg tabW,([]:Hp))) ?_ 0 (Nat.zero_le _) _ _ ?_
 ·intro k hk R hR;rcases Nat.lt_or_ge k 16 with h|h
  ·(simp(disch:=first|decide|omega|(intros;exact Eq.trans rfl rfl)|simp only[puri]) only[a105_0,↓bit32,go_sem,seval,dis])
   have e0:k % 4294967296=k:=Nat.mod_eq_of_lt (by omega)
   refine loop_box (σ:=Nat) (fun j=>4-j) (fun j=>j<=4) (fun j=>[.one (.p 0 0),.one (.p 1 0),vi k,vk .u32 (((crcN j (BitVec.ofNat 32 k)).toNat:Nat):Int),vi k,vi j]) (fun _=>[.cells (tabK 0),.cells (tabK k)]) (fun _=>(V.agg tabW,([]:Hp))) ?_ 0 (Nat.zero_le _) _ _ ?_
   ·intro j hj R2 hR2;rcases Nat.lt_or_ge j 4 with hj4|hj4
    ·have e2:crcN (j+1) (BitVec.ofNat 32 k)=crc1 (crcN j (BitVec.ofNat 32 k)):=crcN_add j 1 _;generalize crcN j (BitVec.ofNat 32 k)=y at *;(simp(disch:=first|decide|omega|(intros;exact Eq.trans rfl rfl)|simp only[puri]) only[a105_1,↓bit32,↓and1,↓tableStep,<- crc1_eq,go_sem,seval,dis])
     exact hR2 (j+1) (by omega) (by omega) _ _ (at_head2 (by decide) (by simp only[List.map_cons,List.map_nil,go_sem,seval];exact rfl) (by simp[idsOf,reach,place_cons,place_nil,canonH,V.ren,L.ren,Box.ren,V.refs,L.refs,Box.refs,e2,tabK_refs,tabK_ren]) (by simp[idsOf,reach,place_cons,place_nil,canonH,V.ren,L.ren,Box.ren,V.refs,L.refs,Box.refs,e2,tabK_refs,tabK_ren]))
    ·have:j=4:=by omega
     subst this;(simp(disch:=first|decide|omega|(intros;exact Eq.trans rfl rfl)|simp only[puri]) only[a105_1,↓bit32,tabK_len,tabK_set k h,go_sem,seval,dis])
     exact hR (k+1) (by omega) (by omega) _ _ (at_head2 (by decide) (by simp only[List.map_cons,List.map_nil,go_sem,seval];exact rfl) (by simp[idsOf,reach,place_cons,place_nil,canonH,V.ren,L.ren,Box.ren,V.refs,L.refs,Box.refs,tabK_refs,tabK_ren]) (by simp[idsOf,reach,place_cons,place_nil,canonH,V.ren,L.ren,Box.ren,V.refs,L.refs,Box.refs,tabK_refs,tabK_ren]))
   ·exact(at_head2 (by decide) (by simp only[List.map_cons,List.map_nil,go_sem,seval];exact rfl) (by simp[idsOf,reach,place_cons,place_nil,canonH,V.ren,L.ren,Box.ren,V.refs,L.refs,Box.refs,crcN,tabK_refs,tabK_ren,e0]) (by simp[idsOf,reach,place_cons,place_nil,canonH,V.ren,L.ren,Box.ren,V.refs,L.refs,Box.refs,crcN,tabK_refs,tabK_ren,e0]))
  ·have:k=16:=by omega
   subst this;have ed:(tabK 0).drop 16=[]:=List.drop_eq_nil_of_le (by rw[tabK_len];exact Nat.le_refl _)
   have et:tabW.take 16=tabW:=List.take_of_length_le (by rw[tabW_len];exact Nat.le_refl _)
   (simp(disch:=first|decide|omega|(intros;exact Eq.trans rfl rfl)|simp only[puri]) only[a105_0,↓bit32,tabK_16,tabW_len,tabK_len,ed,et,tabW_fz,tabW_pure,go_sem,seval,dis])
 ·exact(at_head2 (by decide) (by simp only[List.map_cons,List.map_nil,go_sem,seval];exact rfl) (by simp[idsOf,reach,place_cons,place_nil,canonH,V.ren,L.ren,Box.ren,V.refs,L.refs,Box.refs,tabK_0]) (by simp[idsOf,reach,place_cons,place_nil,canonH,V.ren,L.ren,Box.ren,V.refs,L.refs,Box.refs,tabK_0]))
theorem on_spec (sum:W32) (s:List UInt8) (hs:s.length<=9223372036854775807):call 72 [vk .u32 ((sum.toNat:Nat):Int),vs s] []=some (vk .u32 (((crcOn sum s).toNat:Nat):Int),[]):=by
 apply enterS s72 rfl;have e16:tabW.length=16:=tabW_len;(simp(disch:=first|decide|omega|(intros;exact Eq.trans rfl rfl)|simp only[puri]) only[a72,↓bit32,table_spec,e16,List.append_nil,go_sem,seval,dis])
 refine loop_box (σ:=Nat) (fun k=>s.length-k) (fun k=>k<=s.length) (fun k=>[vs s,.one (.p 0 0),vk .u32 ((((s.take k).foldl crcB (~~~sum)).toNat:Nat):Int),vi s.length,vi k]) (fun _=>[.cells tabW]) (fun _=>(vk .u32 (((crcOn sum s).toNat:Nat):Int),([]:Hp))) ?_ 0 (Nat.zero_le _) _ _ (at_head2 (by decide) (by simp only[List.map_cons,List.map_nil,go_sem,seval];exact rfl) (by simp[idsOf,reach,place_cons,place_nil,canonH,V.ren,L.ren,Box.ren,V.refs,L.refs,Box.refs,tabW_refs,tabW_ren]) (by simp[idsOf,reach,place_cons,place_nil,canonH,V.ren,L.ren,Box.ren,V.refs,L.refs,Box.refs,tabW_refs,tabW_ren]))
 intro k hk R hR;rcases Nat.lt_or_ge k s.length with h|h
 ·have e1:(s.take (k+1)).foldl crcB (~~~sum)=crcB ((s.take k).foldl crcB (~~~sum)) s[k]:=by rw[take_succ_get s k h,List.foldl_append];rfl
  rw[crcB_eq] at e1;generalize (s.take k).foldl crcB (~~~sum)=x at *;have l1:=and15_lt (x ^^^ BitVec.ofNat 32 s[k].toNat);have l2:=and15_lt (((x ^^^ BitVec.ofNat 32 s[k].toNat) >>> 4) ^^^ crcN 4 ((x ^^^ BitVec.ofNat 32 s[k].toNat) &&& 15#32));(simp(disch:=first|decide|omega|(intros;exact Eq.trans rfl rfl)|simp only[puri]) only[a72_0,↓bit32,str_get s k h,cvi32_byte,tabW_at,go_sem,seval,dis])
  exact hR (k+1) (by omega) (by omega) _ _ (at_head2 (by decide) (by simp only[List.map_cons,List.map_nil,go_sem,seval];exact rfl) (by simp[idsOf,reach,place_cons,place_nil,canonH,V.ren,L.ren,Box.ren,V.refs,L.refs,Box.refs,tabW_refs,tabW_ren,e1]) (by simp[idsOf,reach,place_cons,place_nil,canonH,V.ren,L.ren,Box.ren,V.refs,L.refs,Box.refs,tabW_refs,tabW_ren,e1]))
 ·(simp(disch:=first|decide|omega|(intros;exact Eq.trans rfl rfl)|simp only[puri]) only[a72_0,↓bit32,go_sem,seval,dis])
  rw[List.take_of_length_le h];rfl
def crcSum (l:List (List UInt8)):W32:=l.foldl crcOn 0#32
def encS (s:List UInt8):List D:=[.s s]
theorem encS_len (s:List UInt8):(encS s).length=1:=Eq.trans rfl rfl
theorem encS_at (s:List UInt8):(encS s)[0]?=some (.s s):=Eq.trans rfl rfl
theorem sum_spec (l:List (List UInt8)) (hl:l.length<=9223372036854775807) (hs:∀ s∈l,s.length<=9223372036854775807):call 27 [vl (l.map encS)] []=some (vk .u32 (((crcSum l).toNat:Nat):Int),[]):=by
 apply enterS s27 rfl;(simp(disch:=first|decide|omega|(intros;exact Eq.trans rfl rfl)|simp only[puri]) only[a27,go_sem,seval,dis])
 refine loop_data (σ:=Nat) (fun k=>l.length-k) (fun k=>k<=l.length) (fun k=>[vk .u32 ((((l.take k).foldl crcOn 0#32).toNat:Nat):Int),vl (l.map encS),vi l.length,vi k]) (fun _=>(vk .u32 (((crcSum l).toNat:Nat):Int),[])) (fun _=>by simp only[go_sem,seval]) ?_ 0 (Nat.zero_le _) _ (by simp[go_sem,seval])
 intro k hk R hR;rcases Nat.lt_or_ge k l.length with h|h
 ·have e1:(l.take (k+1)).foldl crcOn 0#32=crcOn ((l.take k).foldl crcOn 0#32) l[k]:=by rw[take_succ_get l k h,List.foldl_append];rfl
  have ho:=on_spec ((l.take k).foldl crcOn 0#32) l[k] (hs _ (List.getElem_mem h));(simp(disch:=first|decide|omega|(intros;exact Eq.trans rfl rfl)|simp only[puri]) only[a27_0,encS_len,encS_at,ho,go_sem,seval,dis])
  exact hR (k+1) (by omega) (by omega) _ (by simp[e1,go_sem,seval])
 ·(simp(disch:=first|decide|omega|(intros;exact Eq.trans rfl rfl)|simp only[puri]) only[a27_0,go_sem,seval,dis])
  rw[List.take_of_length_le h];rfl
theorem crcOn_append (x:W32) (a b:List UInt8):crcOn x (a++b)=crcOn (crcOn x a) b:=by
 simp only[crcOn,List.foldl_append,BitVec.not_not]
theorem crcSum2 (a b:List UInt8):crcSum [a,b]=crcOn 0#32 (a++b):=by simp only[crcSum,List.foldl_cons,List.foldl_nil,crcOn_append]
set_option maxRecDepth 4000 in
theorem len64_spec (n:Nat) (hn:n<18446744073709551616):call 143 [vk .u64 ((n:Nat):Int)] []=some (vi (blen n),[]):=by
 apply enterS s143 rfl;have last:∀ m:Nat,m<256->IntKind.u8.wrap ((m:Nat):Int)=((m:Nat):Int):=fun m h=>wrap_u8 (by omega)
 have tab:∀ m:Nat,m<256->IntKind.i64.wrap (((UInt8.ofNat (blen m)).toNat:Nat):Int)=((blen m:Nat):Int):=fun m h=>by
  rw[blen_small h];have:=(blen_le m 8).2 h;exact wrap_i (by omega)
 have b8:∀ m:Nat,m<256->blen m<=8:=fun m h=>(blen_le m 8).2 h
 by_cases c0:4294967296<=n
 ·have e0:=blen_shift (n) 32 c0;simp only[Nat.reducePow] at e0;by_cases c1:65536<=n / 4294967296
  ·have e1:=blen_shift (n / 4294967296) 16 c1;simp only[Nat.reducePow] at e1;by_cases c2:256<=n / 4294967296 / 65536
   ·have e2:=blen_shift (n / 4294967296 / 65536) 8 c2;simp only[Nat.reducePow] at e2;have hm:n / 4294967296 / 65536 / 256<256:=by omega
    have:=b8 _ hm;have e:((blen n:Nat):Int)=32+16+8+((blen (n / 4294967296 / 65536 / 256):Nat):Int):=by omega
    rw[e];(simp(disch:=first|decide|omega|(intros;exact Eq.trans rfl rfl)|simp only[puri]) only[a143,↓shr64_32,↓shr64_16,↓shr64_8,last _ hm,len8_all _ hm,tab _ hm,Int.zero_add,go_sem,seval,dis])
   ·skip
    have hm:n / 4294967296 / 65536<256:=by omega
    have:=b8 _ hm;have e:((blen n:Nat):Int)=32+16+((blen (n / 4294967296 / 65536):Nat):Int):=by omega
    rw[e];(simp(disch:=first|decide|omega|(intros;exact Eq.trans rfl rfl)|simp only[puri]) only[a143,↓shr64_32,↓shr64_16,↓shr64_8,last _ hm,len8_all _ hm,tab _ hm,Int.zero_add,go_sem,seval,dis])
  ·skip
   by_cases c2:256<=n / 4294967296
   ·have e2:=blen_shift (n / 4294967296) 8 c2;simp only[Nat.reducePow] at e2;have hm:n / 4294967296 / 256<256:=by omega
    have:=b8 _ hm;have e:((blen n:Nat):Int)=32+8+((blen (n / 4294967296 / 256):Nat):Int):=by omega
    rw[e];(simp(disch:=first|decide|omega|(intros;exact Eq.trans rfl rfl)|simp only[puri]) only[a143,↓shr64_32,↓shr64_16,↓shr64_8,last _ hm,len8_all _ hm,tab _ hm,Int.zero_add,go_sem,seval,dis])
   ·skip
    have hm:n / 4294967296<256:=by omega
    have:=b8 _ hm;have e:((blen n:Nat):Int)=32+((blen (n / 4294967296):Nat):Int):=by omega
    rw[e];(simp(disch:=first|decide|omega|(intros;exact Eq.trans rfl rfl)|simp only[puri]) only[a143,↓shr64_32,↓shr64_16,↓shr64_8,last _ hm,len8_all _ hm,tab _ hm,Int.zero_add,go_sem,seval,dis])
 ·skip
  by_cases c1:65536<=n
  ·have e1:=blen_shift (n) 16 c1;simp only[Nat.reducePow] at e1;by_cases c2:256<=n / 65536
   ·have e2:=blen_shift (n / 65536) 8 c2;simp only[Nat.reducePow] at e2;have hm:n / 65536 / 256<256:=by omega
    have:=b8 _ hm;have e:((blen n:Nat):Int)=16+8+((blen (n / 65536 / 256):Nat):Int):=by omega
    rw[e];(simp(disch:=first|decide|omega|(intros;exact Eq.trans rfl rfl)|simp only[puri]) only[a143,↓shr64_32,↓shr64_16,↓shr64_8,last _ hm,len8_all _ hm,tab _ hm,Int.zero_add,go_sem,seval,dis])
   ·skip
    have hm:n / 65536<256:=by omega
    have:=b8 _ hm;have e:((blen n:Nat):Int)=16+((blen (n / 65536):Nat):Int):=by omega
    rw[e];(simp(disch:=first|decide|omega|(intros;exact Eq.trans rfl rfl)|simp only[puri]) only[a143,↓shr64_32,↓shr64_16,↓shr64_8,last _ hm,len8_all _ hm,tab _ hm,Int.zero_add,go_sem,seval,dis])
  ·skip
   by_cases c2:256<=n
   ·have e2:=blen_shift (n) 8 c2;simp only[Nat.reducePow] at e2;have hm:n / 256<256:=by omega
    have:=b8 _ hm;have e:((blen n:Nat):Int)=8+((blen (n / 256):Nat):Int):=by omega
    rw[e];(simp(disch:=first|decide|omega|(intros;exact Eq.trans rfl rfl)|simp only[puri]) only[a143,↓shr64_32,↓shr64_16,↓shr64_8,last _ hm,len8_all _ hm,tab _ hm,Int.zero_add,go_sem,seval,dis])
   ·skip
    have hm:n<256:=by omega
    have:=b8 _ hm;have e:((blen n:Nat):Int)=((blen (n):Nat):Int):=by omega
    rw[e];(simp(disch:=first|decide|omega|(intros;exact Eq.trans rfl rfl)|simp only[puri]) only[a143,↓shr64_32,↓shr64_16,↓shr64_8,last _ hm,len8_all _ hm,tab _ hm,Int.zero_add,go_sem,seval,dis])
theorem len_spec (n:Nat) (hn:n<9223372036854775808):call 141 [vi n] []=some (vi (nd n),[]):=by
 apply enterS s141 rfl;have h64:=len64_spec n (by omega)
 have hb:blen n<=63:=(blen_le n 63).2 (by omega)
 have hq:(((blen n:Nat):Int)+6).tdiv 7=(((blen n+6) / 7:Nat):Int):=by rw[Int.tdiv_eq_ediv_of_nonneg (by omega)];omega
 have hm:=nd_blen n;by_cases c:1<(blen n+6) / 7
 ·have e:nd n=(blen n+6) / 7:=by omega
  rw[e];(simp(disch:=first|decide|omega|(intros;exact Eq.trans rfl rfl)|simp only[puri]) only[a141,h64,hq,go_sem,seval,dis])
 ·have e:nd n=1:=by omega
  have c':¬ (((blen n+6) / 7:Nat):Int) > 1:=by omega
  rw[e];(simp(disch:=first|decide|omega|(intros;exact Eq.trans rfl rfl)|simp only[puri]) only[a141,h64,hq,if_neg c',go_sem,seval,dis])
  try rfl
theorem put_spec (n:Nat) (hn:n<9223372036854775808):call 132 [vi n] []=some (vs (enc128 n),[]):=by
 apply enterS s132 rfl;have hl:=len_spec n hn;have h9:=nd_le9 hn;obtain⟨m,hm⟩:∃ m,nd n=m+1:=⟨nd n-1,by have:=nd_pos n;omega⟩
 have hlast:=putR_last n m hm;have hlt:n / 128 ^ m<128:=by
  have:=((nd_range m n).1 hm).1;rw[Nat.div_lt_iff_lt_mul (Nat.pow_pos (by decide))]
  rwa [Nat.pow_succ,Nat.mul_comm] at this
 rw[hm] at hl h9;(simp(disch:=first|decide|omega|(intros;exact Eq.trans rfl rfl)|simp only[puri]) only[a132,hl,Int.mul_one,go_sem,seval,dis])
 refine loop_box (σ:=Nat) (fun k=>m+1-k) (fun k=>k<=m+1) (fun k=>[vi n,.one (.sl 0 1 0 (m+1)),vi ((m+1:Nat):Int),vi k]) (fun k=>[.arr 1 (putR n (m+1) k) 0]) (fun _=>(vs (enc128 n),([]:Hp))) ?_ 0 (Nat.zero_le _) _ _ (at_head2 (by decide) (by simp only[List.map_cons,List.map_nil,go_sem,seval];exact rfl) (by simp[idsOf,reach,place_cons,place_nil,canonH,V.ren,L.ren,Box.ren,V.refs,L.refs,Box.refs,putR_zero]) (by simp[idsOf,reach,place_cons,place_nil,canonH,V.ren,L.ren,Box.ren,V.refs,L.refs,Box.refs,putR_zero]))
 intro k hk R hR;rcases Nat.lt_or_ge k (m+1) with h|h
 ·have hsh:binD .shr (.i .i64 ((n:Nat):Int)) (.i .u64 (7*((k:Nat):Int)))=some (.i .i64 ((n / 2 ^ (7*k):Nat):Int)):=shr_nat .i64 .u64 n (7*k) (by show 7*k<=64;omega)
  have e2:(2:Nat) ^ (7*k)=128 ^ k:=by rw[Nat.pow_mul]
  have hg:=putR_get n (m+1) k k h;have hs:=putR_set n (m+1) k h;rw[e2] at hsh;(simp(disch:=first|decide|omega|(intros;exact Eq.trans rfl rfl)|simp only[puri]) only[a132_0,↓hsh,wrap8_nat,↓or8,hg,hs,go_sem,seval,dis])
  exact hR (k+1) (by omega) (by omega) _ _ (at_head2 (by decide) (by simp only[List.map_cons,List.map_nil,go_sem,seval];exact rfl) (by simp[idsOf,reach,place_cons,place_nil,canonH,V.ren,L.ren,Box.ren,V.refs,L.refs,Box.refs,true_and]) (by simp[idsOf,reach,place_cons,place_nil,canonH,V.ren,L.ren,Box.ren,V.refs,L.refs,Box.refs,true_and]))
 ·have hk':k=m+1:=by omega
  subst hk';have hg:=putR_get n (m+1) (m+1) m (by omega)
  have hd:putD n (m+1) m=128+n / 128 ^ m:=by unfold putD;rw[if_pos (by omega),Nat.mod_eq_of_lt hlt]
  rw[hd] at hg;generalize n / 128 ^ m=q at hlast hlt hg;have ha:=and8 (128+q) (by omega)
  have hmod:(128+q) % 128=q:=by omega
  rw[hmod] at ha;have hpl:=putR_len n (m+1) (m+1);have hw:IntKind.i64.wrap (((m+1:Nat):Int)-1)=((m:Nat):Int):=by rw[wrap_i (by omega)];omega
  have hel:(enc128 n).length=m+1:=hm;have htk:(rowsOfBytes (enc128 n)).take (m+1)=rowsOfBytes (enc128 n):=List.take_of_length_le (by rw[rowsOfBytes_len,hel];exact Nat.le_refl _)
  (simp(disch:=first|decide|omega|(intros;exact Eq.trans rfl rfl)|simp only[puri]) only[a132_0,hw,hg,↓ha,hlast,hpl,rowsOfBytes_len,hel,htk,bytesOf_rows,go_sem,seval,dis])
theorem refPut_spec (n:Nat) (hn:n<9223372036854775808):call 91 [vi n] []=some (vs (enc128 n),[]):=by
 apply enterS s91 rfl;(simp(disch:=first|decide|omega|(intros;exact Eq.trans rfl rfl)|simp only[puri]) only[a91,go_sem,seval,dis])
 refine loop_box (σ:=Nat × List UInt8) (fun s=>s.1) (fun s=>s.1<9223372036854775808∧s.2++enc128 s.1=enc128 n∧s.2.length+nd s.1<=9) (fun s=>[vi s.1,vs s.2]) (fun _=>[]) (fun _=>(vs (enc128 n),([]:Hp))) ?_ (n,[]) ⟨hn,rfl,by simpa using nd_le9 hn⟩ _ _ (at_head2 (by decide) (by simp only[List.map_cons,List.map_nil,go_sem,seval];exact rfl) (by simp[idsOf,reach,place_cons,place_nil,canonH,V.ren,L.ren,Box.ren,V.refs,L.refs,Box.refs,true_and]) (by simp[idsOf,reach,place_cons,place_nil,canonH,V.ren,L.ren,Box.ren,V.refs,L.refs,Box.refs,true_and]))
 rintro⟨k,l⟩ ⟨hk,he,hl⟩ R hR;simp only at hk he hl;rcases Nat.lt_or_ge k 128 with h|h
 ·rw[enc_small h] at he;have hnd:=nd_pos k;(simp(disch:=first|decide|omega|(intros;exact Eq.trans rfl rfl)|simp only[puri]) only[a91_0,wrap8_nat,bytesOf_nil,bytesOf_cons,byte_mod,go_sem,seval,dis])
  rw[he]
 ·have hq:((k:Nat):Int).tdiv 128=((k / 128:Nat):Int):=by rw[Int.tdiv_eq_ediv_of_nonneg (by omega)];omega
  have hr:((k:Nat):Int).tmod 128=((k % 128:Nat):Int):=by rw[Int.tmod_eq_emod_of_nonneg (by omega)];omega
  rw[enc_big (by omega)] at he
  rw[nd_big (by omega)] at hl
  have hw:IntKind.u8.wrap (128+((k % 128:Nat):Int))=((128+k % 128:Nat):Int):=by rw[wrap_u8 (by omega)];omega
  have hb:UInt8.ofNat (((128+k % 128:Nat):Int)).toNat=UInt8.ofNat (128+k % 128):=rfl;(simp(disch:=first|decide|omega|(intros;exact Eq.trans rfl rfl)|simp only[puri]) only[a91_0,hq,hr,hw,bytesOf_nil,bytesOf_cons,go_sem,seval,dis])
  exact hR (k / 128,l++[UInt8.ofNat (128+k % 128)]) (by simp only[];omega) ⟨by simp only[];omega,by simp only[];rw[List.append_assoc];exact he,by simp only[List.length_append,List.length_cons,List.length_nil];omega⟩ _ _ (at_head2 (by decide) (by simp only[List.map_cons,List.map_nil,go_sem,seval];exact rfl) (by simp[idsOf,reach,place_cons,place_nil,canonH,V.ren,L.ren,Box.ren,V.refs,L.refs,Box.refs,true_and]) (by simp[idsOf,reach,place_cons,place_nil,canonH,V.ren,L.ren,Box.ren,V.refs,L.refs,Box.refs,true_and]))
def rdV (a:Nat):Option (Nat × Nat)->V
 | some (n,k)=>.tup [(false,[.d (.i .i64 n)]),(false,[.d (.i .i64 ((a+k:Nat):Int))]),(false,[.d (.b true)])]
 | none=>.tup [(false,[.d (.i .i64 0)]),(false,[.d (.i .i64 0)]),(false,[.d (.b false)])]
theorem shl64 (c i:Nat) (hc:c<128) (hi:i<=8):binD .shl (.i .i64 ((c:Nat):Int)) (.i .u64 (7*((i:Nat):Int)))=some (.i .i64 ((c*2 ^ (7*i):Nat):Int))∧c*2 ^ (7*i)+2 ^ (7*i)<=9223372036854775808:=by
 have h2:2 ^ (7*i)<=2 ^ 56:=Nat.pow_le_pow_right (by decide) (by omega)
 have h3:(c+1)*2 ^ (7*i)<=128*2 ^ 56:=Nat.mul_le_mul (by omega) h2
 have h4:(128:Nat)*2 ^ 56=9223372036854775808:=by decide
 have h5:(c+1)*2 ^ (7*i)=c*2 ^ (7*i)+2 ^ (7*i):=by rw[Nat.add_mul,Nat.one_mul]
 refine⟨?_,by omega⟩
 have hp:0<2 ^ (7*i):=Nat.pow_pos (by decide)
 simp only[binD];rw[if_neg (by omega)]
 have e1:(7*((i:Nat):Int)).toNat=7*i:=by omega
 have e2:min (7*i) IntKind.i64.bits=7*i:=Nat.min_eq_left (by show 7*i<=64;omega)
 rw[e1,e2];have e3:((c:Nat):Int)*2 ^ (7*i)=((c*2 ^ (7*i):Nat):Int):=by simp
 rw[e3,wrap_i (by omega)]
theorem rdF_nil (i n:Nat):rdF [] i n=none:=rfl
theorem rdF_cons (c:UInt8) (r:List UInt8) (i n:Nat):rdF (c::r) i n=if 9<=i then none else if 128<=c.toNat then rdF r (i+1) (n+c.toNat % 128*128 ^ i) else if c.toNat=0∧0<i then none else some (n+c.toNat*128 ^ i,i+1):=rfl
set_option maxRecDepth 4000 in
theorem read_spec (s:List UInt8) (a:Nat) (ha:a<9223372036854775808) (hs:s.length<=9223372036854775807):call 70 [vs s,vi a] []=some (rdV a (rdF (s.drop a) 0 0),[]):=by
 apply enterS s70 rfl;(simp(disch:=first|decide|omega|(intros;exact Eq.trans rfl rfl)|simp only[puri]) only[a70,go_sem,seval,dis])
 refine loop_data (σ:=Nat × Nat) (fun t=>9-t.1) (fun t=>t.1<=9∧t.2<128 ^ t.1) (fun t=>[vs s,vi a,vi t.2,vi t.1]) (fun t=>(rdV a (rdF (s.drop (a+t.1)) t.1 t.2),([]:Hp))) (fun _=>by simp only[go_sem,seval]) ?_ (0,0) ⟨by decide,by decide⟩ _ (by simp[go_sem,seval])
 rintro⟨i,n⟩ ⟨hi,hn⟩ R hR;simp only at hi hn;rcases Nat.lt_or_ge (a+i) s.length with h|h
 ·rcases Nat.lt_or_ge i 9 with h9|h9
  ·simp only[List.drop_eq_getElem_cons h,rdF_cons];rw[if_neg (by omega)]
   obtain⟨c,hc⟩:∃ c,c=s[a+i]:=⟨_,rfl⟩;rw[<- hc];have hg:s[a+i]?=some c:=by rw[hc];simp[h]
   have hc8:=c.toNat_lt;have hm:c.toNat % 128<128:=Nat.mod_lt _ (by decide)
   obtain⟨hsh,hbd⟩:=shl64 (c.toNat % 128) i hm (by omega)
   have hp:(2:Nat) ^ (7*i)=128 ^ i:=by rw[Nat.pow_mul]
   have hand:=and8 c.toNat (by omega)
   have hor:=or64 n (c.toNat % 128) (7*i) (by rw[hp];exact hn) (by rw[hp] at hbd ⊢;omega)
   rw[hp] at hsh hor hbd;have hidx:(((a:Nat):Int)+((i:Nat):Int)).toNat=a+i:=by omega
   have hnat:((a+(i+1):Nat):Int)=(a:Int)+(i:Int)+1:=by omega
   have hnx:n+c.toNat % 128*128 ^ i<128 ^ (i+1):=by
    have:=Nat.mul_le_mul_right (128 ^ i) (by omega:c.toNat % 128+1<=128)
    rw[Nat.pow_succ,Nat.mul_comm (128 ^ i) 128];rw[Nat.add_mul,Nat.one_mul] at this;omega
   rcases Nat.lt_or_ge c.toNat 128 with h1|h1
   ·rw[if_neg (by omega)]
    have hmm:c.toNat % 128=c.toNat:=Nat.mod_eq_of_lt h1;rw[hmm] at hand hsh hor;by_cases h0:c.toNat=0
    ·by_cases hi0:0<i
     ·rw[if_pos ⟨h0,hi0⟩];(simp(disch:=first|decide|omega|(intros;exact Eq.trans rfl rfl)|simp only[puri]) only[a70_0,hidx,hg,↓hand,↓hsh,↓hor,rdV,go_sem,seval,dis])
     ·rw[if_neg (by omega)]
      (simp(disch:=first|decide|omega|(intros;exact Eq.trans rfl rfl)|simp only[puri]) only[a70_0,hidx,hg,↓hand,↓hsh,↓hor,hnat,rdV,go_sem,seval,dis])
    ·rw[if_neg (by omega)]
     (simp(disch:=first|decide|omega|(intros;exact Eq.trans rfl rfl)|simp only[puri]) only[a70_0,hidx,hg,↓hand,↓hsh,↓hor,hnat,rdV,go_sem,seval,dis])
   ·rw[if_pos h1];(simp(disch:=first|decide|omega|(intros;exact Eq.trans rfl rfl)|simp only[puri]) only[a70_0,hidx,hg,↓hand,↓hsh,↓hor,go_sem,seval,dis])
    exact hR (i+1,n+c.toNat % 128*128 ^ i) (by simp only[];omega) ⟨by simp only[];omega,hnx⟩ _ (by simp[go_sem,seval])
  ·have e:rdF (s.drop (a+i)) i n=none:=by
    rw[List.drop_eq_getElem_cons h,rdF_cons,if_pos h9]
   simp only[e];(simp(disch:=first|decide|omega|(intros;exact Eq.trans rfl rfl)|simp only[puri]) only[a70_0,rdV,go_sem,seval,dis])
 ·simp only[List.drop_eq_nil_of_le h,rdF_nil];rcases Nat.lt_or_ge i 9 with h9|h9
  ·(simp(disch:=first|decide|omega|(intros;exact Eq.trans rfl rfl)|simp only[puri]) only[a70_0,rdV,go_sem,seval,dis])
  ·(simp(disch:=first|decide|omega|(intros;exact Eq.trans rfl rfl)|simp only[puri]) only[a70_0,rdV,go_sem,seval,dis])
set_option maxRecDepth 4000 in
theorem refRead_spec (s:List UInt8) (a:Nat) (ha:a<9223372036854775808) (hs:s.length<=9223372036854775807):call 50 [vs s,vi a] []=some (rdV a (rdF (s.drop a) 0 0),[]):=by
 apply enterS s50 rfl;rcases Nat.lt_or_ge a s.length with hal|hal
 ·have e00:(s.take (a+0)).drop a=[]:=List.drop_eq_nil_of_le (by simp;omega)
  rw[show rdF (s.drop a) 0 0=rdF (s.drop (a+0)) 0 (val ((s.take (a+0)).drop a)) by rw[e00];rfl]
  (simp(disch:=first|decide|omega|(intros;exact Eq.trans rfl rfl)|simp only[puri]) only[a50,go_sem,seval,dis])
  refine loop_box (σ:=Nat) (fun i=>9-i) (fun i=>i<=9∧a+i<=s.length∧bigs ((s.take (a+i)).drop a)) (fun i=>[vs s,vi a,vi (val ((s.take (a+i)).drop a)),vi ((128 ^ min i 8:Nat):Int),vi i]) (fun _=>[])
   (fun i=>(rdV a (rdF (s.drop (a+i)) i (val ((s.take (a+i)).drop a))),([]:Hp))) ?_ 0 ⟨by decide,by omega,?_⟩ _ _ ?_
  ·rintro i ⟨hi,hai,hp⟩ R hR;obtain⟨p,hpe⟩:∃ p,p=(s.take (a+i)).drop a:=⟨_,rfl⟩;have hpl:=sls_len s a i hai;rw[<- hpe] at hp hpl;simp only[<- hpe];have hvl:=val_lt p;rw[hpl] at hvl;rcases Nat.lt_or_ge (a+i) s.length with h|h
   ·have hsn:=sls_snoc s a i h;rw[<- hpe] at hsn;rcases Nat.lt_or_ge i 9 with h9|h9
    ·simp only[List.drop_eq_getElem_cons h,rdF_cons];rw[if_neg (by omega)]
     obtain⟨c,hc⟩:∃ c,c=s[a+i]:=⟨_,rfl⟩;rw[<- hc] at hsn ⊢;have hg:s[a+i]?=some c:=by rw[hc];simp[h]
     have hc8:=c.toNat_lt;have hm:c.toNat % 128<128:=Nat.mod_lt _ (by decide)
     obtain⟨_,hbd⟩:=shl64 (c.toNat % 128) i hm (by omega)
     have hpw:(2:Nat) ^ (7*i)=128 ^ i:=by rw[Nat.pow_mul]
     rw[hpw] at hbd;have hmin:min i 8=i:=by omega
     have hidx:(((a:Nat):Int)+((i:Nat):Int)).toNat=a+i:=by omega
     have hr:((c.toNat:Nat):Int).tmod 128=((c.toNat % 128:Nat):Int):=by rw[Int.tmod_eq_emod_of_nonneg (by omega)];omega
     have hmul:((c.toNat % 128:Nat):Int)*((128 ^ i:Nat):Int)=((c.toNat % 128*128 ^ i:Nat):Int):=(Int.natCast_mul _ _).symm;have hw1:IntKind.i64.wrap (((c.toNat % 128*128 ^ i:Nat):Int))=((c.toNat % 128*128 ^ i:Nat):Int):=wrap_i (by omega)
     have hw2:IntKind.i64.wrap (((val p:Nat):Int)+((c.toNat % 128*128 ^ i:Nat):Int))=((val p+c.toNat % 128*128 ^ i:Nat):Int):=by rw[wrap_i (by omega)];omega
     have hwc:IntKind.i64.wrap ((c.toNat:Nat):Int)=((c.toNat:Nat):Int):=wrap_i (by omega)
     have hnat:((a+(i+1):Nat):Int)=(a:Int)+(i:Int)+1:=by omega
     have hto:((a:Int)+(i:Int)+1).toNat=a+i+1:=by omega
     rcases Nat.lt_or_ge c.toNat 128 with h1|h1
     ·rw[if_neg (by omega)]
      have hmm:c.toNat % 128=c.toNat:=Nat.mod_eq_of_lt h1;rw[hmm] at hw1 hw2 hmul hr hbd;have henc:=enc_snoc p c hp h1;rw[hpl] at henc;have hput:=refPut_spec (val p+c.toNat*128 ^ i) (by omega)
      by_cases h0:c.toNat=0∧0<i
      ·rw[if_pos h0];have hne:(enc128 (val p+c.toNat*128 ^ i) == p++[c])=false:=by
        rw[beq_eq_false_iff_ne];exact fun e=>(henc.1 e) h0
       (simp(disch:=first|decide|omega|(intros;exact Eq.trans rfl rfl)|simp only[puri]) only[a50_0,hidx,hg,hwc,hr,hmin,hmul,hw1,hw2,hput,hto,hsn,hne,rdV,go_sem,seval,dis])
      ·rw[if_neg h0];have hne:(enc128 (val p+c.toNat*128 ^ i) == p++[c])=true:=by
        rw[beq_iff_eq];exact henc.2 h0
       (simp(disch:=first|decide|omega|(intros;exact Eq.trans rfl rfl)|simp only[puri]) only[a50_0,hidx,hg,hwc,hr,hmin,hmul,hw1,hw2,hput,hto,hsn,hne,hnat,rdV,go_sem,seval,dis])
     ·rw[if_pos h1];have hv:val (p++[c])=val p+c.toNat % 128*128 ^ i:=by rw[val_snoc,hpl]
      have hb:bigs (p++[c]):=by
       intro x hx;rcases List.mem_append.1 hx with hx|hx
       ·exact hp x hx
       ·simp at hx;subst hx;exact h1
      have hR':=hR (i+1) (by omega)
      simp only[<- Nat.add_assoc,hsn,hv] at hR';rcases Nat.lt_or_ge i 8 with h8|h8
      ·have hmin2:min (i+1) 8=i+1:=by omega
       have hpb:128 ^ i*128<=128 ^ 8:=by rw[<- Nat.pow_succ];exact Nat.pow_le_pow_right (by decide) (by omega)
       have hpe8:(128:Nat) ^ 8=72057594037927936:=by decide
       have hw3:IntKind.i64.wrap (((128 ^ i:Nat):Int)*128)=((128 ^ (i+1):Nat):Int):=by
        rw[Nat.pow_succ,wrap_i (by omega)];omega
       (simp(disch:=first|decide|omega|(intros;exact Eq.trans rfl rfl)|simp only[puri]) only[a50_0,hidx,hg,hwc,hr,hmin,hmul,hw1,hw2,hw3,go_sem,seval,dis])
       exact hR' ⟨by omega,by omega,hb⟩ _ _ (at_head2 (by decide) (by simp only[List.map_cons,List.map_nil,go_sem,seval];exact rfl) (by simp[idsOf,reach,place_cons,place_nil,canonH,V.ren,L.ren,Box.ren,V.refs,L.refs,Box.refs,hmin2]) (by simp[idsOf,reach,place_cons,place_nil,canonH,V.ren,L.ren,Box.ren,V.refs,L.refs,Box.refs,hmin2]))
      ·have hi8:i=8:=by omega
       have hmin2:min (i+1) 8=i:=by omega
       (simp(disch:=first|decide|omega|(intros;exact Eq.trans rfl rfl)|simp only[puri]) only[a50_0,hidx,hg,hwc,hr,hmin,hmul,hw1,hw2,go_sem,seval,dis])
       exact hR' ⟨by omega,by omega,hb⟩ _ _ (at_head2 (by decide) (by simp only[List.map_cons,List.map_nil,go_sem,seval];exact rfl) (by simp[idsOf,reach,place_cons,place_nil,canonH,V.ren,L.ren,Box.ren,V.refs,L.refs,Box.refs,hmin2]) (by simp[idsOf,reach,place_cons,place_nil,canonH,V.ren,L.ren,Box.ren,V.refs,L.refs,Box.refs,hmin2]))
    ·have e:rdF (s.drop (a+i)) i (val p)=none:=by
      rw[List.drop_eq_getElem_cons h,rdF_cons,if_pos h9]
     simp only[e];(simp(disch:=first|decide|omega|(intros;exact Eq.trans rfl rfl)|simp only[puri]) only[a50_0,rdV,go_sem,seval,dis])
   ·simp only[List.drop_eq_nil_of_le h,rdF_nil];rcases Nat.lt_or_ge i 9 with h9|h9
    ·(simp(disch:=first|decide|omega|(intros;exact Eq.trans rfl rfl)|simp only[puri]) only[a50_0,rdV,go_sem,seval,dis])
    ·(simp(disch:=first|decide|omega|(intros;exact Eq.trans rfl rfl)|simp only[puri]) only[a50_0,rdV,go_sem,seval,dis])
  ·intro c hc;simp at hc
  ·have e0:(s.take (a+0)).drop a=[]:=List.drop_eq_nil_of_le (by simp;omega)
   have e0':(s.take a).drop a=[]:=List.drop_eq_nil_of_le (by simp;omega)
   exact(at_head2 (by decide) (by simp only[List.map_cons,List.map_nil,go_sem,seval];exact rfl) (by simp[idsOf,reach,place_cons,place_nil,canonH,V.ren,L.ren,Box.ren,V.refs,L.refs,Box.refs,e0',val]) (by simp[idsOf,reach,place_cons,place_nil,canonH,V.ren,L.ren,Box.ren,V.refs,L.refs,Box.refs,e0',val]))
 ·rw[List.drop_eq_nil_of_le hal,rdF_nil];(simp(disch:=first|decide|omega|(intros;exact Eq.trans rfl rfl)|simp only[puri]) only[a50,rdV,go_sem,seval,dis])
theorem fits_spec (n:Int):call 142 [vi n] []=some (vb (decide (1<=n) && decide (n<=65536)),[]):=by
 apply enterS s142 rfl;by_cases c:1<=n
 ·(simp(disch:=first|decide|omega|(intros;exact Eq.trans rfl rfl)|simp only[puri]) only[a142,c,go_sem,seval,dis])
 ·(simp(disch:=first|decide|omega|(intros;exact Eq.trans rfl rfl)|simp only[puri]) only[a142,c,Bool.false_and,go_sem,seval,dis])
def putV (b:List UInt8):V:=if 1<=b.length∧b.length<=65536 then .tup [(false,[.d (.s (frameF b))]),(false,[.d (.i .i64 0)])] else .tup [(false,[.d (.s [])]),(false,[.d (.i .i64 5)])]
theorem crc2_spec (a b:List UInt8) (ha:a.length<=9223372036854775807) (hb:b.length<=9223372036854775807):call 27 [vl [[.s a],[.s b]]] []=some (vk .u32 (((crcOn 0#32 (a++b)).toNat:Nat):Int),[]):=by
 have:=sum_spec [a,b] (by simp) (by intro s hs;simp at hs;rcases hs with rfl|rfl <;> assumption)
 rw[crcSum2] at this;exact this
theorem putFrame_spec (b:List UInt8) (hb:b.length<=9223372036854775807):call 133 [vs b] []=some (putV b,[]):=by
 apply enterS s133 rfl;have hf:=fits_spec b.length;unfold putV;by_cases c:1<=b.length∧b.length<=65536
 ·have e1:decide (1<=(b.length:Int))=true:=by simp;omega
  have e2:decide ((b.length:Int)<=65536)=true:=by simp;omega
  rw[e1,e2] at hf;have hp:=put_spec b.length (by omega)
  have hel:(enc128 b.length).length<=9:=nd_le9 (n:=b.length) (by omega)
  have hs:=crc2_spec (enc128 b.length) b (by omega) hb
  have h4:=four_spec (crcOn 0#32 (enc128 b.length++b));have l4:=four_len (crcOn 0#32 (enc128 b.length++b));rw[if_pos c];(simp(disch:=first|decide|omega|(intros;exact Eq.trans rfl rfl)|simp only[puri]) only[a133,hf,hp,hs,h4,l4,frameF,go_sem,seval,dis])
 ·have hf':(decide (1<=(b.length:Int)) && decide ((b.length:Int)<=65536))=false:=by rw[Bool.and_eq_false_iff,decide_eq_false_iff_not,decide_eq_false_iff_not];omega
  rw[hf'] at hf;rw[if_neg c];(simp(disch:=first|decide|omega|(intros;exact Eq.trans rfl rfl)|simp only[puri]) only[a133,hf,go_sem,seval,dis])
theorem refPutFrame_spec (b:List UInt8) (hb:b.length<=9223372036854775807):call 95 [vs b] []=some (putV b,[]):=by
 apply enterS s95 rfl;unfold putV;by_cases c:1<=b.length
 ·by_cases c2:b.length<=65536
  ·have hp:=refPut_spec b.length (by omega)
   have hel:(enc128 b.length).length<=9:=nd_le9 (n:=b.length) (by omega)
   have hs:=refOf_spec (enc128 b.length++b) (by simp;omega)
   have h4:=refFour_spec (crcOn 0#32 (enc128 b.length++b));have l4:=four_len (crcOn 0#32 (enc128 b.length++b));rw[if_pos ⟨c,c2⟩];(simp(disch:=first|decide|omega|(intros;exact Eq.trans rfl rfl)|simp only[puri]) only[a95,hp,hs,h4,l4,frameF,go_sem,seval,dis])
  ·rw[if_neg (by omega)]
   (simp(disch:=first|decide|omega|(intros;exact Eq.trans rfl rfl)|simp only[puri]) only[a95,go_sem,seval,dis])
 ·rw[if_neg (by omega)]
  (simp(disch:=first|decide|omega|(intros;exact Eq.trans rfl rfl)|simp only[puri]) only[a95,go_sem,seval,dis])
theorem ends_spec (s:List UInt8) (a:Nat) (ha:a<=s.length) (hs:s.length<=9223372036854775807):call 124 [vs s,vi a] []=some (vb (openF (s.drop a)),[]):=by
 apply enterS s124 rfl;have e:openF (s.drop a)=(((s.drop (a+0)).all fun c=>decide (128<=c.toNat)) && decide (s.length-a<=8)):=by simp[openF,Bool.and_comm]
 rw[e];(simp(disch:=first|decide|omega|(intros;exact Eq.trans rfl rfl)|simp only[puri]) only[a124,go_sem,seval,dis])
 refine loop_data (σ:=Nat) (fun k=>s.length-k) (fun k=>k<=s.length) (fun k=>[vs s,vi a,vi k]) (fun k=>(vb (((s.drop k).all fun c=>decide (128<=c.toNat)) && decide (s.length-a<=8)),([]:Hp))) (fun _=>by simp only[go_sem,seval]) ?_ a ha _ (by simp[go_sem,seval])
 intro k hk R hR;rcases Nat.lt_or_ge k s.length with h|h
 ·simp only[List.drop_eq_getElem_cons h,List.all_cons];by_cases c1:128<=s[k].toNat
  ·rw[decide_eq_true c1,Bool.true_and];(simp(disch:=first|decide|omega|(intros;exact Eq.trans rfl rfl)|simp only[puri]) only[a124_0,str_get s k h,go_sem,seval,dis])
   exact hR (k+1) (by first|omega|(simp only[];omega)) (by first|omega|(simp only[];omega)) _ (by simp[go_sem,seval])
  ·rw[decide_eq_false c1,Bool.false_and,Bool.false_and];(simp(disch:=first|decide|omega|(intros;exact Eq.trans rfl rfl)|simp only[puri]) only[a124_0,str_get s k h,go_sem,seval,dis])
 ·rw[List.drop_eq_nil_of_le h,List.all_nil,Bool.true_and];by_cases c:s.length-a<=8
  ·rw[decide_eq_true c];(simp(disch:=first|decide|omega|(intros;exact Eq.trans rfl rfl)|simp only[puri]) only[a124_0,go_sem,seval,dis])
  ·rw[decide_eq_false c];(simp(disch:=first|decide|omega|(intros;exact Eq.trans rfl rfl)|simp only[puri]) only[a124_0,go_sem,seval,dis])
def nextV (r:List UInt8 × Nat × Int):V:=.tup [(false,[.d (.s r.1)]),(false,[.d (.i .i64 ((r.2.1:Nat):Int))]),(false,[.d (.i .i64 r.2.2)])]
set_option maxRecDepth 8000 in
theorem refNext_spec (s:List UInt8) (a:Nat) (ha:a<9223372036854775808) (hs:s.length<=4611686018427387904):call 99 [vs s,vi a] []=some (nextV (nextF s a),[]):=by
 apply enterS s99 rfl;unfold nextF;rcases Nat.lt_or_ge a s.length with hal|hal
 ·have ho:=ends_spec s a (by omega) (by omega)
  cases hop:openF (s.drop a) with
  | true =>
   rw[hop] at ho;rw[if_pos (.inr rfl)];(simp(disch:=first|decide|omega|(intros;exact Eq.trans rfl rfl)|simp only[puri]) only[a99,ho,nextV,go_sem,seval,dis])
   try rfl
  | false =>
   rw[hop] at ho;rw[if_neg (by simp;omega)]
   have hrd:=refRead_spec s a ha (by omega)
   cases hr:rdF (s.drop a) 0 0 with
   | none =>
    rw[hr] at hrd;(simp(disch:=first|decide|omega|(intros;exact Eq.trans rfl rfl)|simp only[puri]) only[a99,ho,hrd,rdV,nextV,go_sem,seval,dis])
    try rfl
   | some q =>
    obtain⟨n,k⟩:=q;rw[hr] at hrd;obtain⟨te,t1,t2,t3⟩:=take_drop_enc hr;dsimp only
    by_cases hfn:fitsN n=false
    ·rw[if_pos hfn];have hn':n<1∨65536<n:=by
      simp only[fitsN,Bool.and_eq_false_iff,decide_eq_false_iff_not] at hfn;omega
     by_cases h0:n<1
     ·(simp(disch:=first|decide|omega|(intros;exact Eq.trans rfl rfl)|simp only[puri]) only[a99,ho,hrd,rdV,nextV,go_sem,seval,dis])
      try rfl
     ·(simp(disch:=first|decide|omega|(intros;exact Eq.trans rfl rfl)|simp only[puri]) only[a99,ho,hrd,rdV,nextV,go_sem,seval,dis])
      try rfl
    ·have hfn:fitsN n=true:=by simpa using hfn
     have hn:1<=n∧n<=65536:=by simpa[fitsN] using hfn
     have e1:((a+k:Nat):Int)+4=((a+k+4:Nat):Int):=rfl;have e3:((a+k+4:Nat):Int)+((n:Nat):Int)=((a+k+4+n:Nat):Int):=rfl;have e4:IntKind.i64.wrap (((a+k+4:Nat):Int)-4)=((a+k:Nat):Int):=by rw[wrap_i (by omega)];omega
     rw[if_neg (by rw[hfn];decide)]
     by_cases hsh:s.length<a+k+4+n
     ·rw[if_pos hsh];(simp(disch:=first|decide|omega|(intros;exact Eq.trans rfl rfl)|simp only[puri]) only[a99,ho,hrd,rdV,nextV,e1,go_sem,seval,dis])
      try rfl
     ·rw[if_neg hsh];have htl:((s.take (a+k+4+n)).drop (a+k+4)).length=n:=by simp;omega
      have hpf:=refPutFrame_spec ((s.take (a+k+4+n)).drop (a+k+4)) (by omega)
      unfold putV at hpf;rw[htl,if_pos hn] at hpf;have hsp:(s.take (a+k+4+n)).drop a=enc128 n++(s.take (a+k+4)).drop (a+k)++(s.take (a+k+4+n)).drop (a+k+4):=by
       rw[<- te];have s1:∀ (l:List UInt8) (i j m:Nat),i<=j->j<=m->(l.take m).drop i=(l.take j).drop i++(l.take m).drop j:=by
        intro l i j m hij hjm;have e:l.take m=l.take j++(l.take m).drop j:=by
         conv=>lhs;rw[<- List.take_append_drop j (l.take m),List.take_take,Nat.min_eq_left hjm]
        rcases Nat.lt_or_ge l.length j with hlj|hlj
        ·have:(l.take m).drop j=[]:=List.drop_eq_nil_of_le (by simp;omega)
         rw[this,List.append_nil,List.take_of_length_le (by omega),List.take_of_length_le (by omega)]
        ·conv=>lhs;rw[e]
         rw[List.drop_append_of_le_length (by simp;omega)]
       rw[s1 s a (a+k) (a+k+4+n) (by omega) (by omega),s1 s (a+k) (a+k+4) (a+k+4+n) (by omega) (by omega),List.append_assoc]
      have hto:((a+k+4+n:Nat):Int).toNat=a+k+4+n:=rfl;have e5:4+((n:Nat):Int)=((4+n:Nat):Int):=rfl;have hff:frameF ((s.take (a+k+4+n)).drop (a+k+4))=enc128 n++four (crcOn 0#32 (enc128 n++(s.take (a+k+4+n)).drop (a+k+4)))++(s.take (a+k+4+n)).drop (a+k+4):=by
       unfold frameF;rw[htl]
      by_cases hq:four (crcOn 0#32 (enc128 n++(s.take (a+k+4+n)).drop (a+k+4)))=(s.take (a+k+4)).drop (a+k)
      ·have hb:(frameF ((s.take (a+k+4+n)).drop (a+k+4)) == (s.take (a+k+4+n)).drop a)=true:=by rw[beq_iff_eq,hff,hsp,hq]
       rw[if_pos hq];(simp(disch:=first|decide|omega|(intros;exact Eq.trans rfl rfl)|simp only[puri]) only[a99,ho,hrd,rdV,nextV,e1,e3,e5,hpf,hb,go_sem,seval,dis])
      ·have hb:(frameF ((s.take (a+k+4+n)).drop (a+k+4)) == (s.take (a+k+4+n)).drop a)=false:=by
        rw[beq_eq_false_iff_ne,hff,hsp];intro he;exact hq (List.append_cancel_left (List.append_cancel_right he))
       rw[if_neg hq];(simp(disch:=first|decide|omega|(intros;exact Eq.trans rfl rfl)|simp only[puri]) only[a99,ho,hrd,rdV,nextV,e1,e3,e5,hpf,hb,go_sem,seval,dis])
       try rfl
 ·rw[if_pos (.inl hal)];(simp(disch:=first|decide|omega|(intros;exact Eq.trans rfl rfl)|simp only[puri]) only[a99,nextV,go_sem,seval,dis])
  try rfl
structure Rec where
 at_:Int
 ti:Int
 da:List UInt8
 deriving DecidableEq
def Rec.enc (e:Rec):List D:=[.i .i64 e.at_,.i .i64 e.ti,.s e.da]
theorem Rec.len (e:Rec):e.enc.length=3:=Eq.trans rfl rfl
theorem Rec.tk (e:Rec):e.enc.take 3=e.enc:=Eq.trans rfl rfl
theorem Rec.tkL (e:Rec):(e.enc.map L.d).take 3=e.enc.map L.d:=Eq.trans rfl rfl
theorem Rec.dat (e:Rec):dataLs (e.enc.map L.d)=some (e.enc.map L.d):=Eq.trans rfl rfl
theorem Rec.rfs (e:Rec):(e.enc.map L.d).flatMap L.refs=[]:=Eq.trans rfl rfl
theorem Rec.rn (e:Rec) (g:Nat->Option Nat):(e.enc.map L.d).map (L.ren g)=e.enc.map L.d:=Eq.trans rfl rfl
theorem Rec.lenL (e:Rec):(e.enc.map L.d).length=3:=Eq.trans rfl rfl
theorem Rec.at0 (e:Rec):e.enc[0]?=some (.i .i64 e.at_):=Eq.trans rfl rfl
theorem Rec.fd0 (e:Rec):(e.enc.map L.d)[0]?=some (.d (.i .i64 e.at_)):=Eq.trans rfl rfl
theorem Rec.at1 (e:Rec):(e.enc.drop 1)[0]?=some (.i .i64 e.ti):=Eq.trans rfl rfl
theorem Rec.fd1 (e:Rec):(e.enc.map L.d)[1]?=some (.d (.i .i64 e.ti)):=Eq.trans rfl rfl
theorem Rec.at2 (e:Rec):(e.enc.drop 2)[0]?=some (.s e.da):=Eq.trans rfl rfl
theorem Rec.fd2 (e:Rec):(e.enc.map L.d)[2]?=some (.d (.s e.da)):=Eq.trans rfl rfl
theorem Rec.up1 (e:Rec) (x:Int):e.enc.take 1++[.i .i64 x]++e.enc.drop 2=({ e with ti:=x }:Rec).enc:=Eq.trans rfl rfl
theorem Rec.up2 (e:Rec) (x:List UInt8):e.enc.take 2++[.s x]++e.enc.drop 3=({ e with da:=x }:Rec).enc:=Eq.trans rfl rfl
def Rec.ok (e:Rec):Prop:=(-9223372036854775808<=e.at_∧e.at_<9223372036854775808)∧(-9223372036854775808<=e.ti∧e.ti<9223372036854775808)∧e.da.length<=9223372036854775807
def Rec.ty:List Ty:=[.i .i64,.i .i64,.s]
theorem Rec.eqs (a b:Rec):scEqs [0,0,2] (a.enc.map L.d) (b.enc.map L.d)=some (decide (a=b)):=by
 cases a;cases b;simp only[Rec.enc,List.map_cons,List.map_nil,scEqs,scEq,if_true,Rec.mk.injEq];congr 1
 rw[Bool.eq_iff_iff];simp only[Bool.and_eq_true,beq_iff_eq,decide_eq_true_eq,and_true]
theorem Rec.of (r:List D) (h:wfRow Rec.ty r):∃ e:Rec,r=e.enc∧e.ok:=by
 simp only[Rec.ty,wfRow,wfT] at h;obtain⟨_,_,rfl,⟨x0,rfl,h0,g0⟩,⟨_,_,rfl,⟨x1,rfl,h1,g1⟩,⟨_,_,rfl,⟨x2,rfl,h2⟩,rfl⟩⟩⟩:=h;refine⟨⟨x0,x1,x2⟩,rfl,?_⟩;exact⟨⟨Int.le_trans (by decide) h0,Int.lt_of_le_of_lt g0 (by decide)⟩,⟨Int.le_trans (by decide) h1,Int.lt_of_le_of_lt g1 (by decide)⟩,h2⟩
def offN (n:Int):Bool:=decide (0<=n) && decide (n<=1099511627776)
def whyF (r:Rec):Int:=if offN r.at_=true∧offN r.ti=true then(if r.da.length<=64 then 0 else 5) else 6
theorem offN_t {n:Int} (h:offN n=true):0<=n∧n<=1099511627776:=by simpa[offN] using h
theorem within_spec (n:Int):call 93 [vi n] []=some (vb (offN n),[]):=by
 apply enterS s93 rfl;by_cases c:0<=n
 ·(simp(disch:=first|decide|omega|(intros;exact Eq.trans rfl rfl)|simp only[puri]) only[a93,offN,c,go_sem,seval,dis])
 ·(simp(disch:=first|decide|omega|(intros;exact Eq.trans rfl rfl)|simp only[puri]) only[a93,offN,c,Bool.false_and,go_sem,seval,dis])
theorem why_spec (r:Rec) (hr:r.ok):call 94 [.agg (r.enc.map .d)] []=some (vi (whyF r),[]):=by
 apply enterS s94 rfl;obtain⟨h1,h2,h3⟩:=hr;have f1:=within_spec r.at_;have f2:=within_spec r.ti;unfold whyF;cases c1:offN r.at_ with
 | false =>
  rw[c1] at f1;(simp(disch:=first|decide|omega|(intros;exact Eq.trans rfl rfl)|simp only[puri]) only[a94,Rec.len,Rec.tk,Rec.fd0,Rec.fd1,Rec.fd2,Rec.at0,Rec.at1,Rec.at2,f1,f2,go_sem,seval,dis])
  try simp
 | true =>
  cases c2:offN r.ti with
  | false =>
   rw[c1] at f1;rw[c2] at f2;(simp(disch:=first|decide|omega|(intros;exact Eq.trans rfl rfl)|simp only[puri]) only[a94,Rec.len,Rec.tk,Rec.fd0,Rec.fd1,Rec.fd2,Rec.at0,Rec.at1,Rec.at2,f1,f2,go_sem,seval,dis])
   try simp
  | true =>
   rw[c1] at f1;rw[c2] at f2;by_cases c3:r.da.length<=64
   ·(simp(disch:=first|decide|omega|(intros;exact Eq.trans rfl rfl)|simp only[puri]) only[a94,Rec.len,Rec.tk,Rec.fd0,Rec.fd1,Rec.fd2,Rec.at0,Rec.at1,Rec.at2,f1,f2,go_sem,seval,dis])
    try simp[c3]
   ·(simp(disch:=first|decide|omega|(intros;exact Eq.trans rfl rfl)|simp only[puri]) only[a94,Rec.len,Rec.tk,Rec.fd0,Rec.fd1,Rec.fd2,Rec.at0,Rec.at1,Rec.at2,f1,f2,go_sem,seval,dis])
    try simp[c3]
theorem refRight_spec (r:Rec):call 53 [.agg (r.enc.map .d)] []=some (vb (decide (whyF r=0)),[]):=by
 apply enterS s53 rfl;have f1:=within_spec r.at_;have f2:=within_spec r.ti;unfold whyF;cases c1:offN r.at_ with
 | false =>
  rw[c1] at f1;(simp(disch:=first|decide|omega|(intros;exact Eq.trans rfl rfl)|simp only[puri]) only[a53,Rec.len,Rec.tkL,Rec.dat,Rec.lenL,Rec.fd0,Rec.fd1,Rec.fd2,Rec.at0,Rec.at1,Rec.at2,f1,f2,go_sem,seval,dis])
  try simp
 | true =>
  cases c2:offN r.ti with
  | false =>
   rw[c1] at f1;rw[c2] at f2;(simp(disch:=first|decide|omega|(intros;exact Eq.trans rfl rfl)|simp only[puri]) only[a53,Rec.len,Rec.tkL,Rec.dat,Rec.lenL,Rec.fd0,Rec.fd1,Rec.fd2,Rec.at0,Rec.at1,Rec.at2,f1,f2,go_sem,seval,dis])
   try simp
  | true =>
   rw[c1] at f1;rw[c2] at f2;by_cases c3:r.da.length<=64
   ·(simp(disch:=first|decide|omega|(intros;exact Eq.trans rfl rfl)|simp only[puri]) only[a53,Rec.len,Rec.tkL,Rec.dat,Rec.lenL,Rec.fd0,Rec.fd1,Rec.fd2,Rec.at0,Rec.at1,Rec.at2,f1,f2,go_sem,seval,dis])
    try simp[c3]
   ·(simp(disch:=first|decide|omega|(intros;exact Eq.trans rfl rfl)|simp only[puri]) only[a53,Rec.len,Rec.tkL,Rec.dat,Rec.lenL,Rec.fd0,Rec.fd1,Rec.fd2,Rec.at0,Rec.at1,Rec.at2,f1,f2,go_sem,seval,dis])
    try simp[c3]
def bodyF (r:Rec):List UInt8:=enc128 r.at_.toNat++enc128 r.ti.toNat++r.da
structure Fit (r:Rec):Prop where
 a0:0<=r.at_
 a1:r.at_<=1099511627776
 t0:0<=r.ti
 t1:r.ti<=1099511627776
 d:r.da.length<=64
theorem why_fit {r:Rec}:whyF r=0↔Fit r:=by
 unfold whyF;constructor
 ·intro h;split at h
  ·rename_i c;have c1:=offN_t c.1;have c2:=offN_t c.2;split at h
   ·exact⟨c1.1,c1.2,c2.1,c2.2,by assumption⟩
   ·cases h
  ·cases h
 ·intro h;have c1:offN r.at_=true:=by simp[offN,h.a0,h.a1]
  have c2:offN r.ti=true:=by simp[offN,h.t0,h.t1]
  rw[if_pos ⟨c1,c2⟩,if_pos h.d]
theorem nd_le6 {n:Nat} (h:n<=1099511627776):nd n<=6:=by
 have hp:=nd_pos n;rcases Nat.lt_or_ge 6 (nd n) with h6|h6
 ·have:=(nd_range (nd n-1) n).1 (by omega)
  rcases this.2 with h0|h0
  ·omega
  ·have:(128:Nat) ^ 6<=128 ^ (nd n-1):=Nat.pow_le_pow_right (by decide) (by omega)
   have e:(128:Nat) ^ 6=4398046511104:=by decide
   omega
 ·exact h6
theorem body_len (r:Rec):(bodyF r).length=nd r.at_.toNat+nd r.ti.toNat+r.da.length:=by simp[bodyF,nd,Nat.add_assoc]
theorem Fit.blen {r:Rec} (h:Fit r):2<=(bodyF r).length∧(bodyF r).length<=76:=by
 have h1:=nd_le6 (n:=r.at_.toNat) (by have:=h.a0;have:=h.a1;omega)
 have h2:=nd_le6 (n:=r.ti.toNat) (by have:=h.t0;have:=h.t1;omega)
 have h3:=nd_pos r.at_.toNat;have h4:=nd_pos r.ti.toNat;have:=h.d;rw[body_len];omega
def putR (r:Rec):V:=if whyF r=0 then .tup [(false,[.d (.s (frameF (bodyF r)))]),(false,[.d (.i .i64 0)])] else .tup [(false,[.d (.s [])]),(false,[.d (.i .i64 (whyF r))])]
theorem putN {n:Int} (h:0<=n) (h1:n<9223372036854775808):call 132 [vi n] []=some (vs (enc128 n.toNat),[]):=by
 have:=put_spec n.toNat (by omega)
 rwa [show((n.toNat:Nat):Int)=n by omega] at this
theorem refPutN {n:Int} (h:0<=n) (h1:n<9223372036854775808):call 91 [vi n] []=some (vs (enc128 n.toNat),[]):=by
 have:=refPut_spec n.toNat (by omega)
 rwa [show((n.toNat:Nat):Int)=n by omega] at this
theorem refBody_spec (r:Rec) (hr:r.ok) (hf:Fit r):call 96 [.agg (r.enc.map .d)] []=some (vs (bodyF r),[]):=by
 apply enterS s96 rfl;have p1:=refPutN hf.a0 hr.1.2;have p2:=refPutN hf.t0 hr.2.1.2;have l1:(enc128 r.at_.toNat).length<=9:=nd_le9 (n:=r.at_.toNat) (by have:=hr.1.2;omega)
 have l2:(enc128 r.ti.toNat).length<=9:=nd_le9 (n:=r.ti.toNat) (by have:=hr.2.1.2;omega)
 have l3:=hf.d;(simp(disch:=first|decide|omega|(intros;exact Eq.trans rfl rfl)|simp only[puri]) only[a96,Rec.len,Rec.tkL,Rec.dat,Rec.lenL,Rec.fd0,Rec.fd1,Rec.fd2,Rec.at0,Rec.at1,Rec.at2,p1,p2,bodyF,go_sem,seval,dis])
theorem refPutRec_spec (r:Rec) (hr:r.ok):call 55 [.agg (r.enc.map .d)] []=some (putR r,[]):=by
 apply enterS s55 rfl;have h:=why_spec r hr;unfold putR;by_cases c:whyF r=0
 ·have hf:=why_fit.1 c;have hb:=hf.blen;have p:=refPutFrame_spec (bodyF r) (by omega)
  unfold putV at p;rw[if_pos (by omega)] at p
  rw[c] at h;have p1:=refBody_spec r hr hf;rw[if_pos c];(simp(disch:=first|decide|omega|(intros;exact Eq.trans rfl rfl)|simp only[puri]) only[a55,Rec.len,Rec.tkL,Rec.dat,Rec.lenL,Rec.fd0,Rec.fd1,Rec.fd2,Rec.at0,Rec.at1,Rec.at2,h,p1,p,go_sem,seval,dis])
 ·rw[if_neg c];(simp(disch:=first|decide|omega|(intros;exact Eq.trans rfl rfl)|simp only[puri]) only[a55,Rec.len,Rec.tkL,Rec.dat,Rec.lenL,Rec.fd0,Rec.fd1,Rec.fd2,Rec.at0,Rec.at1,Rec.at2,h,go_sem,seval,dis])
def getR (s:List UInt8):Rec × Int:=match rdF s 0 0 with
 | none=>(⟨0,0,[]⟩,3)
 | some (n,k)=>match rdF (s.drop k) 0 0 with
  | none=>(⟨0,0,[]⟩,3)
  | some (m,j)=>if whyF ⟨n,m,s.drop (k+j)⟩=0 then(⟨n,m,s.drop (k+j)⟩,0) else(⟨0,0,[]⟩,whyF ⟨n,m,s.drop (k+j)⟩)
def recV (r:Rec × Int):V:=.tup [(true,r.1.enc.map .d),(false,[.d (.i .i64 r.2)])]
theorem rd_lt {l:List UInt8} {n k:Nat} (h:rdF l 0 0=some (n,k)):n<9223372036854775808:=by
 obtain⟨h1,h2,h3,h4⟩:=rdF_enc0 h;have e:nd n=k:=by unfold nd;rw[<- h4,List.length_take];omega
 obtain⟨m,hm⟩:∃ m,nd n=m+1:=⟨nd n-1,by have:=nd_pos n;omega⟩
 have:=((nd_range m n).1 hm).1;have h9:(128:Nat) ^ (m+1)<=128 ^ 9:=Nat.pow_le_pow_right (by decide) (by omega)
 have e9:(128:Nat) ^ 9=9223372036854775808:=by decide
 omega
set_option maxRecDepth 8000 in
theorem refGet_spec (s:List UInt8) (hs:s.length<=1000000):call 139 [vs s] []=some (recV (getR s),[]):=by
 apply enterS s139 rfl;have g1:=refRead_spec s 0 (by decide) (by omega)
 simp only[List.drop_zero,Int.natCast_zero] at g1;unfold getR recV;cases h:rdF s 0 0 with
 | none =>
  rw[h] at g1;(simp(disch:=first|decide|omega|(intros;exact Eq.trans rfl rfl)|simp only[puri]) only[a139,g1,rdV,go_sem,seval,dis])
  try rfl
 | some q =>
  obtain⟨n,k⟩:=q;rw[h] at g1;simp only[rdV,Nat.zero_add] at g1;obtain⟨b1,b2,b3,b4⟩:=rdF_enc0 h;have hn:=rd_lt h;have g2:=refRead_spec s k (by omega) (by omega)
  dsimp only
  cases h2:rdF (s.drop k) 0 0 with
  | none =>
   rw[h2] at g2;simp only[rdV] at g2;(simp(disch:=first|decide|omega|(intros;exact Eq.trans rfl rfl)|simp only[puri]) only[a139,g1,g2,go_sem,seval,dis])
   try rfl
  | some q2 =>
   obtain⟨m,j⟩:=q2;rw[h2] at g2;simp only[rdV] at g2;obtain⟨d1,d2,d3,d4⟩:=rdF_enc0 h2;have hm:=rd_lt h2;have d2':k+j<=s.length:=by rw[List.length_drop] at d2;omega
   have ck:call 94 [.agg [.d (.i .i64 n),.d (.i .i64 m),.d (.s (s.drop (k+j)))]] []=some (vi (whyF ⟨n,m,s.drop (k+j)⟩),[]):=why_spec ⟨n,m,s.drop (k+j)⟩ ⟨⟨by simp only[];omega,by simp only[];omega⟩,⟨by simp only[];omega,by simp only[];omega⟩,by simp;omega⟩
   dsimp only
   by_cases c:whyF ⟨n,m,s.drop (k+j)⟩=0
   ·rw[c] at ck;rw[if_pos c];(simp(disch:=first|decide|omega|(intros;exact Eq.trans rfl rfl)|simp only[puri]) only[a139,g1,g2,ck,go_sem,seval,dis])
    try rfl
   ·rw[if_neg c];(simp(disch:=first|decide|omega|(intros;exact Eq.trans rfl rfl)|simp only[puri]) only[a139,g1,g2,ck,c,go_sem,seval,dis])
    try rfl
def frameR (r:Rec):List UInt8:=frameF (bodyF r)
def rowS (l:List Rec):List UInt8:=l.flatMap frameR
theorem rowS_succ (l:List Rec) (i:Nat) (h:i<l.length):rowS (l.take (i+1))=rowS (l.take i)++frameR l[i]:=by
 unfold rowS;rw[take_succ_get l i h,List.flatMap_append];simp
theorem nextF_tlen (s:List UInt8) (a:Nat):(nextF s a).1.length<=s.length:=by
 unfold nextF;repeat' split
 all_goals (try simp)
 all_goals omega
theorem getR_body {r:Rec} (h:Fit r):getR (bodyF r)=(r,0):=by
 have h0:=h.a0;have h1:=h.a1;have h2:=h.t0;have h3:=h.t1;have ea:((r.at_.toNat:Nat):Int)=r.at_:=by omega
 have et:((r.ti.toNat:Nat):Int)=r.ti:=by omega
 have r1:rdF (bodyF r) 0 0=some (r.at_.toNat,nd r.at_.toNat):=by
  unfold bodyF;rw[List.append_assoc];exact rdF_of0 _ _ (by omega)
 have d1:(bodyF r).drop (nd r.at_.toNat)=enc128 r.ti.toNat++r.da:=by
  unfold bodyF nd;rw[List.append_assoc,List.drop_left]
 have r2:rdF (enc128 r.ti.toNat++r.da) 0 0=some (r.ti.toNat,nd r.ti.toNat):=rdF_of0 _ _ (by omega)
 have d2:(bodyF r).drop (nd r.at_.toNat+nd r.ti.toNat)=r.da:=by
  rw[<- List.drop_drop,d1];unfold nd;rw[List.drop_left]
 have er:(⟨((r.at_.toNat:Nat):Int),((r.ti.toNat:Nat):Int),r.da⟩:Rec)=r:=by rw[ea,et]
 unfold getR;rw[r1];simp only[];rw[d1,r2];simp only[];rw[d2,er,if_pos (why_fit.2 h)]
def placesF:Nat->List UInt8->Nat->Int->List (Rec × Nat) × Nat × Int
 | 0,_,a,_=>([],a,0)
 | f+1,s,a,b=>if s.length<=a then([],a,0) else
  match nextF s a with
  | (t,n,e)=>if e=0 then(if(getR t).2=0 then(if(getR t).1.at_=b then(((getR t).1,a)::(placesF f s n (b+1)).1,(placesF f s n (b+1)).2) else([],a,3)) else([],a,(getR t).2)) else([],a,e)
theorem placesF_step {s t:List UInt8} {a n f:Nat} {b:Int} (ha:a<s.length) (h:nextF s a=(t,n,0)) (hg:(getR t).2=0) (hb:(getR t).1.at_=b):placesF (f+1) s a b=(((getR t).1,a)::(placesF f s n (b+1)).1,(placesF f s n (b+1)).2):=by
 simp only[placesF];rw[if_neg (by omega),h];simp only[];rw[if_pos trivial,if_pos hg,if_pos hb]
theorem placesF_off {s t:List UInt8} {a n f:Nat} {b:Int} (ha:a<s.length) (h:nextF s a=(t,n,0)) (hg:(getR t).2=0) (hb:(getR t).1.at_≠b):placesF (f+1) s a b=([],a,3):=by
 simp only[placesF];rw[if_neg (by omega),h];simp only[];rw[if_pos trivial,if_pos hg,if_neg hb]
theorem placesF_bad {s t:List UInt8} {a n f:Nat} {b:Int} (ha:a<s.length) (h:nextF s a=(t,n,0)) (hg:(getR t).2≠0):placesF (f+1) s a b=([],a,(getR t).2):=by
 simp only[placesF];rw[if_neg (by omega),h];simp only[];rw[if_pos trivial,if_neg hg]
theorem placesF_stop {s t:List UInt8} {a n f:Nat} {e b:Int} (ha:a<s.length) (h:nextF s a=(t,n,e)) (he:e≠0):placesF (f+1) s a b=([],a,e):=by
 simp only[placesF];rw[if_neg (by omega),h];simp only[];rw[if_neg he]
theorem placesF_end {s:List UInt8} {a f:Nat} {b:Int} (ha:s.length<=a):placesF f s a b=([],a,0):=by
 cases f with
 | zero=>rfl
 | succ f=>simp only[placesF];rw[if_pos ha]
theorem placesF_fuel {s:List UInt8}:∀ (g g' b:Nat) (o:Int),b<=s.length->s.length<b+g->s.length<b+g'->placesF g s b o=placesF g' s b o:=by
 intro g;induction g with
 | zero=>intro g' b o hb h1 h2;omega
 | succ g ih =>
  intro g' b o hb h1 h2;obtain⟨g2,rfl⟩:∃ g2,g'=g2+1:=⟨g'-1,by omega⟩
  rcases Nat.lt_or_ge b s.length with hbl|hbl
  ·obtain⟨⟨t',n',e'⟩,hx'⟩:∃ x,nextF s b=x:=⟨_,rfl⟩;by_cases he':e'=0
   ·subst he';have hok':=nextF_ok hx';by_cases hg:(getR t').2=0
    ·by_cases ho:(getR t').1.at_=o
     ·rw[placesF_step hbl hx' hg ho,placesF_step hbl hx' hg ho,ih g2 n' _ hok'.2 (by omega) (by omega)]
     ·rw[placesF_off hbl hx' hg ho,placesF_off hbl hx' hg ho]
    ·rw[placesF_bad hbl hx' hg,placesF_bad hbl hx' hg]
   ·rw[placesF_stop hbl hx' he',placesF_stop hbl hx' he']
  ·rw[placesF_end hbl,placesF_end hbl]
def scanV (r:List (Rec × Nat) × Nat × Int):V:=.tup [(false,[.d (.l (r.1.map fun x=>x.1.enc))]),(false,[.d (.i .i64 ((r.2.1:Nat):Int))]),(false,[.d (.i .i64 r.2.2)])]
def scanS (s:List UInt8) (b:Int):List (Rec × Nat) × Nat × Int:=if offN b=true then placesF (s.length+1) s 0 b else([],0,1)
def ntE (x:Rec × Nat):List D:=[.i .i64 x.2]
def placesV (r:List (Rec × Nat) × Nat × Int):V:=.tup [(false,[.d (.l (r.1.map fun x=>x.1.enc))]),(false,[.d (.l (r.1.map ntE))]),(false,[.d (.i .i64 ((r.2.1:Nat):Int))]),(false,[.d (.i .i64 r.2.2)])]
set_option maxRecDepth 8000 in
theorem places_spec (s:List UInt8) (hs:s.length<=1000000) (b:Int) (hb : -9223372036854775808<=b∧b<9223372036854775808):call 122 [vs s,vi b] []=some (placesV (scanS s b),[]):=by
 apply enterS s122 rfl;unfold scanS;cases ho:offN b with
 | false =>
  by_cases c0:b<0
  ·(simp(disch:=first|decide|omega|(intros;exact Eq.trans rfl rfl)|simp only[puri]) only[a122,c0,go_sem,seval,dis])
   simp[placesV]
  ·have c1:¬ b<=1099511627776:=by simpa[offN,Int.not_lt.1 c0] using ho
   (simp(disch:=first|decide|omega|(intros;exact Eq.trans rfl rfl)|simp only[puri]) only[a122,c0,c1,go_sem,seval,dis])
   simp[placesV]
 | true =>
  have hb2:0<=b∧b<=1099511627776:=by simpa[offN] using ho
  (simp(disch:=first|decide|omega|(intros;exact Eq.trans rfl rfl)|simp only[puri]) only[a122,go_sem,seval,dis])
  refine loop_box (σ:=Nat × Int × List (Rec × Nat)) (fun t=>s.length-t.1) (fun t=>t.1<=s.length∧t.2.2.length<=t.1∧t.2.1=b+t.2.2.length) (fun t=>[vs s,vi b,.one (.sl 0 3 0 t.2.2.length),.one (.sl 1 1 0 t.2.2.length),vi t.1]) (fun t=>[.arr 3 (t.2.2.map fun x=>x.1.enc) 0,.arr 1 (t.2.2.map ntE) 0])
   (fun t=>(placesV (t.2.2++(placesF (s.length+1-t.1) s t.1 t.2.1).1,(placesF (s.length+1-t.1) s t.1 t.2.1).2),([]:Hp))) ?_ (0,b,[]) ⟨Nat.zero_le _,by simp,by simp⟩ _ _ (at_head2 (by decide) (by simp only[List.map_cons,List.map_nil,go_sem,seval];exact rfl) (by simp[idsOf,reach,place_cons,place_nil,canonH,V.ren,L.ren,Box.ren,V.refs,L.refs,Box.refs,true_and]) (by simp[idsOf,reach,place_cons,place_nil,canonH,V.ren,L.ren,Box.ren,V.refs,L.refs,Box.refs,true_and]))
  rintro⟨a,nx,out⟩ ⟨ha,hout,hnx⟩ R hR;simp only at ha hout hnx;rcases Nat.lt_or_ge a s.length with h|h
  ·obtain⟨f,hf⟩:∃ f,s.length+1-a=f+1:=⟨s.length-a,by omega⟩
   have hn:=refNext_spec s a (by omega) (by omega)
   have htl:=nextF_tlen s a;obtain⟨⟨t,n,e⟩,hx⟩:∃ x,nextF s a=x:=⟨_,rfl⟩;rw[hx] at hn htl;by_cases he:e=0
   ·subst he;have hok:=nextF_ok hx;have hg:=refGet_spec t (by simp only[] at htl;omega)
    have hst := @placesF_step s t a n f nx h hx;have hof := @placesF_off s t a n f nx h hx;have hbd := @placesF_bad s t a n f nx h hx;obtain⟨⟨r,g⟩,hq⟩:∃ x,getR t=x:=⟨_,rfl⟩;rw[hq] at hg hst hof hbd;simp only[recV] at hg hst hof hbd;by_cases hz:g=0
    ·subst hz;by_cases ho:r.at_=nx
     ·simp only[hf,hst rfl ho];have e3:placesF f s n (nx+1)=placesF (s.length+1-n) s n (nx+1):=placesF_fuel _ _ n _ hok.2 (by omega) (by omega)
      have hm:List.map (fun x:Rec × Nat=>x.1.enc) out++[r.enc]=List.map (fun x=>x.1.enc) (out++[(r,a)]):=by simp
      have hm2:List.map ntE out++[[D.i IntKind.i64 a]]=List.map ntE (out++[(r,a)]):=by simp[ntE]
      have fd:(r.enc.map L.d)[0]?=some (.d (.i .i64 nx)):=by rw[Rec.fd0,ho]
      (simp(disch:=first|decide|omega|(intros;exact Eq.trans rfl rfl)|simp only[puri]) only[a122_0,hn,nextV,hg,Rec.len,Rec.tk,Rec.tkL,Rec.dat,Rec.lenL,fd,<- hnx,go_sem,seval,dis])
      have hR':=hR (n,nx+1,out++[(r,a)]) (by simp only[];omega) ⟨hok.2,by simp;omega,by simp;omega⟩
      simp only[List.append_assoc,List.singleton_append,List.length_append,List.length_cons,List.length_nil,Nat.zero_add,Int.natCast_add,Int.natCast_one,<- Int.add_assoc,<- e3] at hR';exact hR' _ _ (at_head2 (by decide) (by simp only[List.map_cons,List.map_nil,go_sem,seval];exact rfl) (by simp[idsOf,reach,place_cons,place_nil,canonH,V.ren,L.ren,Box.ren,V.refs,L.refs,Box.refs,Rec.rfs,Rec.rn,ntE]) (by simp[idsOf,reach,place_cons,place_nil,canonH,V.ren,L.ren,Box.ren,V.refs,L.refs,Box.refs,Rec.rfs,Rec.rn,ntE]))
     ·simp only[hf,hof rfl ho];(simp(disch:=first|decide|omega|(intros;exact Eq.trans rfl rfl)|simp only[puri]) only[a122_0,hn,nextV,hg,placesV,Rec.len,Rec.tk,Rec.tkL,Rec.dat,Rec.lenL,Rec.fd0,ho,<- hnx,go_sem,seval,dis])
      try simp
    ·simp only[hf,hbd hz];(simp(disch:=first|decide|omega|(intros;exact Eq.trans rfl rfl)|simp only[puri]) only[a122_0,hn,nextV,hg,placesV,Rec.len,Rec.tk,Rec.tkL,Rec.dat,Rec.lenL,go_sem,seval,dis])
     try simp
   ·simp only[hf,placesF_stop h hx he];(simp(disch:=first|decide|omega|(intros;exact Eq.trans rfl rfl)|simp only[puri]) only[a122_0,hn,nextV,placesV,go_sem,seval,dis])
    try simp
  ·have hal:a=s.length:=by omega
   subst hal;simp only[placesF_end (Nat.le_refl _)];(simp(disch:=first|decide|omega|(intros;exact Eq.trans rfl rfl)|simp only[puri]) only[a122_0,placesV,go_sem,seval,dis])
   try simp
theorem refScan_spec (s:List UInt8) (hs:s.length<=1000000) (b:Int) (hb : -9223372036854775808<=b∧b<9223372036854775808):call 92 [vs s,vi b] []=some (scanV (scanS s b),[]):=by
 apply enterS s92 rfl;have hp:=places_spec s hs b hb;unfold placesV at hp;(simp(disch:=first|decide|omega|(intros;exact Eq.trans rfl rfl)|simp only[puri]) only[a92,hp,scanV,go_sem,seval,dis])
theorem placesF_len {s:List UInt8}:∀ (f a:Nat) (b:Int),a<=s.length->(placesF f s a b).1.length+a<=s.length:=by
 intro f;induction f with
 | zero=>intro a b h;simpa[placesF] using h
 | succ f ih =>
  intro a b h;rcases Nat.lt_or_ge a s.length with hal|hal
  ·obtain⟨⟨t,n,e⟩,hx⟩:∃ x,nextF s a=x:=⟨_,rfl⟩;by_cases he:e=0
   ·subst he;have:=nextF_ok hx;by_cases hg:(getR t).2=0
    ·by_cases ho:(getR t).1.at_=b
     ·rw[placesF_step hal hx hg ho];have:=ih n (b+1) (by omega)
      simp only[List.length_cons];omega
     ·rw[placesF_off hal hx hg ho];simpa using h
    ·rw[placesF_bad hal hx hg];simpa using h
   ·rw[placesF_stop hal hx he];simpa using h
  ·rw[placesF_end hal];simpa using h
theorem scanS_len (s:List UInt8) (b:Int):(scanS s b).1.length<=s.length:=by
 unfold scanS;split
 ·have:=placesF_len (s:=s) (s.length+1) 0 b (Nat.zero_le _);omega
 ·simp
def numB (b:Int) (l:List Rec):Prop:=∀ k (h:k<l.length),l[k].at_=b+k
theorem numB_cons {b:Int} {r:Rec} {l:List Rec} (h:numB b (r::l)):r.at_=b∧numB (b+1) l:=by
 constructor
 ·have:=h 0 (by simp);simpa using this
 ·intro k hk;have:=h (k+1) (by simpa using hk)
  simp only[List.getElem_cons_succ] at this;rw[this];omega
theorem numB_take {b:Int} {l:List Rec} (w:Nat) (h:numB b l):numB b (l.take w):=by
 intro k hk;rw[List.getElem_take];exact h k _
theorem rowS_cons (r:Rec) (l:List Rec):rowS (r::l)=frameF (bodyF r)++rowS l:=rfl
theorem placesF_row:∀ (l:List Rec) (p q:List UInt8) (f:Nat) (b:Int),(∀ r∈l,whyF r=0)->numB b l->l.length<=f ->
  (placesF f (p++(rowS l++q)) p.length b).1.map (·.1)=l++(placesF (f-l.length) (p++(rowS l++q)) (p++rowS l).length (b+l.length)).1.map (·.1) ∧
  (placesF f (p++(rowS l++q)) p.length b).2=(placesF (f-l.length) (p++(rowS l++q)) (p++rowS l).length (b+l.length)).2:=by
 intro l;induction l with
 | nil =>
  intro p q f b _ _ _;have:rowS []=[]:=rfl;simp[this]
 | cons r l ih =>
  intro p q f b hw hn hf;obtain⟨g,rfl⟩:∃ g,f=g+1:=⟨f-1,by simp at hf;omega⟩
  have w0:=hw r (List.mem_cons_self ..);have hfit:=why_fit.1 w0;have hb:=hfit.blen;have hp:=frame_pos (bodyF r);have hx:=nextF_frame p (bodyF r) (rowS l++q) (by omega) (by omega)
  have hg:=getR_body hfit;have hnn:=numB_cons hn;have e0:p++(rowS (r::l)++q)=p++(frameF (bodyF r)++(rowS l++q)):=by rw[rowS_cons];simp
  have e1:p++(frameF (bodyF r)++(rowS l++q))=(p++frameF (bodyF r))++(rowS l++q):=by simp
  have e2:(p++frameF (bodyF r))++rowS l=p++rowS (r::l):=by rw[rowS_cons];simp
  have hlt:p.length<(p++(frameF (bodyF r)++(rowS l++q))).length:=by simp;omega
  have:=ih (p++frameF (bodyF r)) q g (b+1) (fun x hx=>hw x (List.mem_cons_of_mem _ hx)) hnn.2 (by simp at hf;omega)
  have hlen:(p++frameF (bodyF r)).length=p.length+(frameF (bodyF r)).length:=List.length_append;rw[<- e1,e2,hlen] at this;rw[e0,placesF_step hlt hx (by rw[hg]) (by rw[hg];exact hnn.1),hg]
  have e3:g+1-(r::l).length=g-l.length:=by simp
  have e4:b+((r::l).length:Int)=b+1+(l.length:Int):=by simp;omega
  rw[e3,e4];exact⟨by simp only[List.map_cons,this.1,List.cons_append],this.2⟩
theorem row_ge':∀ l:List Rec,l.length<=(rowS l).length
 | []=>by simp
 | r::l=>by
  have:=row_ge' l;have hp:=frame_pos (bodyF r);rw[rowS_cons,List.length_append,List.length_cons];omega
def endR (l:List Rec) (k:Nat):Nat:=(rowS (l.take k)).length
theorem scan_row (l:List Rec) (b:Int) (hb:offN b=true) (hw:∀ r∈l,whyF r=0) (hn:numB b l):(scanS (rowS l) b).1.map (·.1)=l∧(scanS (rowS l) b).2=((rowS l).length,0):=by
 have hge:=row_ge' l;have h:=placesF_row l [] [] ((rowS l).length+1) b hw hn (by omega)
 simp only[List.nil_append,List.append_nil,List.length_nil] at h;rw[placesF_end (f:=(rowS l).length+1-l.length) (Nat.le_refl _)] at h;unfold scanS;rw[if_pos hb];exact⟨by simpa using h.1,h.2⟩
theorem scan_cut (l:List Rec) (b:Int) (hb:offN b=true) (hw:∀ r∈l,whyF r=0) (hn:numB b l) (w n:Nat) (hwl:w<=l.length) (h1:endR l w<=n) (h2:w=l.length->n<=endR l w) (h3:w<l.length->n<endR l (w+1)) :
  (scanS ((rowS l).take n) b).1.map (·.1)=l.take w∧(scanS ((rowS l).take n) b).2=(endR l w,if endR l w=n then 0 else 2):=by
 have hw':∀ r∈l.take w,whyF r=0:=fun r hr=>hw r (List.mem_of_mem_take hr)
 have hge:=row_ge' (l.take w);have hlw:(l.take w).length=w:=by simp;omega
 obtain⟨q,hq,hcase⟩:∃ q,(rowS l).take n=rowS (l.take w)++q∧((q=[]∧endR l w=n)∨(∃ (h:w<l.length) (m:Nat),q=(frameF (bodyF l[w])).take m∧0<m∧m<(frameF (bodyF l[w])).length∧endR l w+m=n)):=by
  rcases Nat.lt_or_ge w l.length with h|h
  ·have hes:endR l (w+1)=endR l w+(frameF (bodyF l[w])).length:=by
    unfold endR;rw[rowS_succ l w h,List.length_append];rfl
   have hlt:=h3 h;have hsp:rowS l=rowS (l.take w)++(frameF (bodyF l[w])++rowS (l.drop (w+1))):=by
    conv=>lhs;rw[<- List.take_append_drop w l,List.drop_eq_getElem_cons h]
    simp only[rowS,List.flatMap_append,List.flatMap_cons];rfl
   have hx:(rowS l).take n=rowS (l.take w)++(frameF (bodyF l[w])).take (n-endR l w):=by
    rw[hsp,List.take_append,List.take_of_length_le h1];congr 1
    exact List.take_append_of_le_length (by unfold endR at *;omega)
   by_cases he:endR l w=n
   ·refine⟨[],?_,.inl ⟨rfl,he⟩⟩;rw[hx,he,Nat.sub_self];simp
   ·exact⟨_,hx,.inr ⟨h,n-endR l w,rfl,by omega,by omega,by omega⟩⟩
  ·have hwe:w=l.length:=by omega
   have:=h2 hwe;refine⟨[],?_,.inl ⟨rfl,by omega⟩⟩
   rw[hwe,List.take_of_length_le (Nat.le_refl _),List.append_nil];refine List.take_of_length_le ?_;have e:endR l l.length=(rowS l).length:=by unfold endR;rw[List.take_of_length_le (Nat.le_refl _)]
   rw[hwe,e] at h1;exact h1
 have har:=placesF_row (l.take w) [] q ((rowS (l.take w)++q).length+1) b hw' (numB_take w hn) (by simp;simp at hge;omega)
 simp only[List.nil_append,List.length_nil] at har;unfold scanS;rw[if_pos hb,hq];rcases hcase with⟨hqe,he⟩|⟨h,m,hqe,hm0,hm1,he⟩
 ·subst hqe;have z:=placesF_end (s:=rowS (l.take w)++[]) (a:=(rowS (l.take w)).length) (f:=(rowS (l.take w)++[]).length+1-(l.take w).length) (b:=b+((l.take w).length:Int)) (by simp)
  rw[z] at har;rw[if_pos he];exact⟨by simpa using har.1,har.2⟩
 ·have hbl:=(why_fit.1 (hw l[w] (List.getElem_mem h))).blen;have hc:=nextF_cut (rowS (l.take w)) (bodyF l[w]) m (by omega) (by omega) hm0 hm1
  rw[<- hqe] at hc;have hql:q.length=m:=by rw[hqe];simp;omega
  obtain⟨f,hf⟩:∃ f,(rowS (l.take w)++q).length+1-(l.take w).length=f+1:=⟨(rowS (l.take w)++q).length-(l.take w).length,by simp;simp at hge;omega⟩
  rw[hf,placesF_stop (by rw[List.length_append];omega) hc (by decide)] at har
  rw[if_neg (by omega)]
  exact⟨by simpa using har.1,har.2⟩
abbrev Txt:=List UInt8
def bl (a b:Txt):Bool:=Op.bytesLess a b
theorem bl_nil (a:Txt):bl a []=false:=by cases a <;> rfl
theorem bl_cons (a b:UInt8) (x y:Txt):bl (a::x) (b::y)=(decide (a<b) || (a == b && bl x y)):=rfl
theorem bl_irr:∀ a:Txt,bl a a=false
 | []=>rfl
 | a::x=>by rw[bl_cons,bl_irr x];simp
theorem bl_tri:∀ a b:Txt,bl a b=true∨a=b∨bl b a=true
 | [],[]=>.inr (.inl rfl)
 | [],_::_=>.inl rfl
 | _::_,[]=>.inr (.inr rfl)
 | a::x,b::y=>by
  rw[bl_cons,bl_cons];by_cases h:a=b
  ·subst h;rcases bl_tri x y with h|h|h
   ·left;simp[h]
   ·right;left;rw[h]
   ·right;right;simp[h]
  ·rcases Nat.lt_or_ge a.toNat b.toNat with h2|h2
   ·left;have:a<b:=h2;simp[this]
   ·right;right
    have:b<a:=by
     show b.toNat<a.toNat;have:a.toNat≠b.toNat:=fun e=>h (UInt8.toNat_inj.1 e)
     omega
    simp[this]
theorem bl_trans:∀ {a b c:Txt},bl a b=true->bl b c=true->bl a c=true
 | _,[],_,h,_=>by rw[bl_nil] at h;cases h
 | _,_::_,[],_,h=>by rw[bl_nil] at h;cases h
 | [],_::_,_::_,_,_=>rfl
 | a::x,b::y,c::z,h1,h2=>by
  rw[bl_cons] at *;simp only[Bool.or_eq_true,Bool.and_eq_true,decide_eq_true_eq,beq_iff_eq] at *;rcases h1 with h1|⟨rfl,h1⟩
  ·rcases h2 with h2|⟨rfl,h2⟩
   ·left;exact UInt8.lt_trans h1 h2
   ·left;exact h1
  ·rcases h2 with h2|⟨rfl,h2⟩
   ·left;exact h2
   ·right;exact⟨rfl,bl_trans h1 h2⟩
theorem bl_asym {a b:Txt} (h:bl a b=true):bl b a=false:=by
 cases h2:bl b a with
 | false=>rfl
 | true=>have:=bl_trans h h2;rw[bl_irr] at this;cases this
theorem bl_ne {a b:Txt} (h:bl a b=true):a≠b:=fun e=>by rw[e,bl_irr] at h;cases h
structure Fil where
 name:List UInt8
 data:List UInt8
 sure:Int
 deriving DecidableEq
def Fil.enc (e:Fil):List D:=[.s e.name,.s e.data,.i .i64 e.sure]
theorem Fil.len (e:Fil):e.enc.length=3:=Eq.trans rfl rfl
theorem Fil.tk (e:Fil):e.enc.take 3=e.enc:=Eq.trans rfl rfl
theorem Fil.tkL (e:Fil):(e.enc.map L.d).take 3=e.enc.map L.d:=Eq.trans rfl rfl
theorem Fil.dat (e:Fil):dataLs (e.enc.map L.d)=some (e.enc.map L.d):=Eq.trans rfl rfl
theorem Fil.rfs (e:Fil):(e.enc.map L.d).flatMap L.refs=[]:=Eq.trans rfl rfl
theorem Fil.rn (e:Fil) (g:Nat->Option Nat):(e.enc.map L.d).map (L.ren g)=e.enc.map L.d:=Eq.trans rfl rfl
theorem Fil.lenL (e:Fil):(e.enc.map L.d).length=3:=Eq.trans rfl rfl
theorem Fil.at0 (e:Fil):e.enc[0]?=some (.s e.name):=Eq.trans rfl rfl
theorem Fil.fd0 (e:Fil):(e.enc.map L.d)[0]?=some (.d (.s e.name)):=Eq.trans rfl rfl
theorem Fil.at1 (e:Fil):(e.enc.drop 1)[0]?=some (.s e.data):=Eq.trans rfl rfl
theorem Fil.fd1 (e:Fil):(e.enc.map L.d)[1]?=some (.d (.s e.data)):=Eq.trans rfl rfl
theorem Fil.at2 (e:Fil):(e.enc.drop 2)[0]?=some (.i .i64 e.sure):=Eq.trans rfl rfl
theorem Fil.fd2 (e:Fil):(e.enc.map L.d)[2]?=some (.d (.i .i64 e.sure)):=Eq.trans rfl rfl
theorem Fil.up1 (e:Fil) (x:List UInt8):e.enc.take 1++[.s x]++e.enc.drop 2=({ e with data:=x }:Fil).enc:=Eq.trans rfl rfl
theorem Fil.up2 (e:Fil) (x:Int):e.enc.take 2++[.i .i64 x]++e.enc.drop 3=({ e with sure:=x }:Fil).enc:=Eq.trans rfl rfl
def Fil.ok (e:Fil):Prop:=e.name.length<=9223372036854775807∧e.data.length<=9223372036854775807∧(-9223372036854775808<=e.sure∧e.sure<9223372036854775808)
def Fil.ty:List Ty:=[.s,.s,.i .i64]
theorem Fil.eqs (a b:Fil):scEqs [2,2,0] (a.enc.map L.d) (b.enc.map L.d)=some (decide (a=b)):=by
 cases a;cases b;simp only[Fil.enc,List.map_cons,List.map_nil,scEqs,scEq,if_true,Fil.mk.injEq];congr 1
 rw[Bool.eq_iff_iff];simp only[Bool.and_eq_true,beq_iff_eq,decide_eq_true_eq,and_true]
theorem Fil.of (r:List D) (h:wfRow Fil.ty r):∃ e:Fil,r=e.enc∧e.ok:=by
 simp only[Fil.ty,wfRow,wfT] at h;obtain⟨_,_,rfl,⟨x0,rfl,h0⟩,⟨_,_,rfl,⟨x1,rfl,h1⟩,⟨_,_,rfl,⟨x2,rfl,h2,g2⟩,rfl⟩⟩⟩:=h;refine⟨⟨x0,x1,x2⟩,rfl,?_⟩;exact⟨h0,h1,⟨Int.le_trans (by decide) h2,Int.lt_of_le_of_lt g2 (by decide)⟩⟩
structure Dsk where
 files:List Fil
 cap:Int
 armed:Bool
 left:Int
 down:Bool
def Dsk.l (d:Dsk):List L:=[.d (.l (d.files.map Fil.enc)),.d (.i .i64 d.cap),.d (.b d.armed),.d (.i .i64 d.left),.d (.b d.down)]
def namedF (s:Txt):Bool:=decide (s≠[]) && decide (s.length<=32)
theorem named_spec (s:Txt):call 77 [vs s] []=some (vb (namedF s),[]):=by
 apply enterS s77 rfl;by_cases h:s=[]
 ·subst h;have e:(([]:Txt) == [])=true:=rfl;(simp(disch:=first|decide|omega|(intros;exact Eq.trans rfl rfl)|simp only[puri]) only[a77,e,go_sem,seval,dis])
  try rfl
 ·have e:(s == [])=false:=by rw[beq_eq_false_iff_ne];exact h
  by_cases h2:s.length<=32
  ·(simp(disch:=first|decide|omega|(intros;exact Eq.trans rfl rfl)|simp only[puri]) only[a77,e,h2,go_sem,seval,dis])
   simp[namedF,h,h2]
  ·(simp(disch:=first|decide|omega|(intros;exact Eq.trans rfl rfl)|simp only[puri]) only[a77,e,h2,go_sem,seval,dis])
   simp[namedF,h,h2]
def srt (l:List Fil):Prop:=l.Pairwise fun a b=>bl a.name b.name=true
def posF (l:List Fil) (n:Txt):Nat:=l.countP fun f=>bl f.name n
def hasF (l:List Fil) (n:Txt):Bool:=match l[posF l n]? with|some f=>decide (f.name=n)|none=>false
theorem cntP_iff {α:Type} (p:α->Bool):∀ (l:List α),l.Pairwise (fun a b=>p b=true->p a=true)->∀ i (h:i<l.length),(p l[i]=true↔i<l.countP p)
 | [],_,i,h=>by simp at h
 | a::l,hp,i,h=>by
  rw[List.pairwise_cons] at hp;cases i with
  | zero =>
   rw[List.getElem_cons_zero,List.countP_cons];constructor
   ·intro h2;simp[h2]
   ·intro h2;by_cases hc:p a=true
    ·exact hc
    ·simp only[hc,Bool.false_eq_true,↓reduceIte,Nat.add_zero] at h2;rw[List.countP_pos_iff] at h2;obtain⟨b,hb,hpb⟩:=h2;exact hp.1 b hb hpb
  | succ i =>
   simp only[List.length_cons,Nat.add_lt_add_iff_right] at h;rw[List.getElem_cons_succ,cntP_iff p l hp.2 i h,List.countP_cons];by_cases hc:p a=true
   ·simp[hc]
   ·simp only[hc,Bool.false_eq_true,↓reduceIte,Nat.add_zero];constructor
    ·intro h2;exfalso;have:0<l.countP p:=by omega
     rw[List.countP_pos_iff] at this;obtain⟨b,hb,hpb⟩:=this;exact hc (hp.1 b hb hpb)
    ·intro h2;exfalso;have:0<l.countP p:=by omega
     rw[List.countP_pos_iff] at this;obtain⟨b,hb,hpb⟩:=this;exact hc (hp.1 b hb hpb)
theorem pos_iff {l:List Fil} (hs:srt l) (n:Txt) (i:Nat) (h:i<l.length):bl l[i].name n=true↔i<posF l n :=
 cntP_iff (fun f=>bl f.name n) l (hs.imp fun hab hb=>bl_trans hab hb) i h
theorem pos_le (l:List Fil) (n:Txt):posF l n<=l.length:=List.countP_le_length
def cmpF (a b:Txt):Int:=if bl a b=true then -1 else if bl b a=true then 1 else 0
theorem cmp_spec (f:Fil) (n:Txt):call 129 [.agg (f.enc.map .d),vs n] []=some (vi (cmpF f.name n),[]):=by
 apply enterS s129 rfl;unfold cmpF bl;cases h:Op.bytesLess f.name n with
 | true =>
  (simp(disch:=first|decide|omega|(intros;exact Eq.trans rfl rfl)|simp only[puri]) only[a129,Fil.enc,List.map_cons,List.map_nil,h,go_sem,seval,dis])
  try simp
 | false =>
  rcases bl_tri f.name n with h1|h1|h1
  ·unfold bl at h1;rw[h] at h1;cases h1
  ·have e:(f.name == n)=true:=by rw[h1];exact beq_self_eq_true _
   have h2:Op.bytesLess n f.name=false:=by rw[h1];exact bl_irr n
   (simp(disch:=first|decide|omega|(intros;exact Eq.trans rfl rfl)|simp only[puri]) only[a129,Fil.enc,List.map_cons,List.map_nil,h,e,go_sem,seval,dis])
   try simp[h2]
  ·have e:(f.name == n)=false:=by rw[beq_eq_false_iff_ne];exact fun e=>bl_ne h1 e.symm
   have h2:Op.bytesLess n f.name=true:=h1;(simp(disch:=first|decide|omega|(intros;exact Eq.trans rfl rfl)|simp only[puri]) only[a129,Fil.enc,List.map_cons,List.map_nil,h,e,go_sem,seval,dis])
   try simp[h2]
theorem cmpI (f:Fil) (n:Txt) (H:Hp):callIso call 129 [.agg (f.enc.map .d),vs n] H=some (vi (cmpF f.name n),H):=callIso_pure rfl (cmp_spec f n) rfl
theorem cmp_neg (a b:Txt):cmpF a b<0↔bl a b=true:=by unfold cmpF;split <;> simp_all;split <;> omega
theorem cmp_zero {a b:Txt}:cmpF a b=0↔a=b:=by
 unfold cmpF;rcases bl_tri a b with h|h|h
 ·simp[h,bl_ne h]
 ·subst h;simp[bl_irr]
 ·simp[h,bl_asym h];exact fun e=>bl_ne h e.symm
def findFV (l:List Fil) (n:Txt):V:=.tup [(false,[.d (.i .i64 (posF l n:Nat))]),(false,[.d (.b (hasF l n))])]
theorem half (lo hi:Nat):Int.fdiv ((lo:Int)+(hi:Int)) 2=(((lo+hi) / 2:Nat):Int):=by
 rw[Int.fdiv_eq_ediv_of_nonneg _ (by decide)];omega
theorem shr1 (n:Int):binD .shr (.i .u64 n) (.i .u64 1)=some (.i .u64 (n.fdiv 2)):=rfl
set_option maxRecDepth 8000 in
set_option maxHeartbeats 1000000 in
theorem bsearch_data (l:List Fil) (hl:l.length<=1000000) (hs:srt l) (n:Txt):call 128 [vl (l.map Fil.enc),vs n,.one (.f 129 [])] []=some (findFV l n,[]):=by
 apply enterS s128 rfl;have hc:=fun(f:Fil)=>cmpI f n
 obtain⟨Z,hZ⟩:∃ Z:V × Hp,Z=(findFV l n,[]):=⟨_,rfl⟩;rw[<- hZ];(simp(disch:=first|decide|omega|(intros;exact Eq.trans rfl rfl)|simp only[puri]) only[a128,go_sem,seval,dis])
 refine loop_boxM (m:=0) (σ:=Nat × Nat) (fun t=>t.2-t.1) (fun t=>t.1<=posF l n∧posF l n<=t.2∧t.2<=l.length) (fun t=>[vl (l.map Fil.enc),vs n,.one (.f 129 []),vi l.length,vi t.1,vi t.2]) (fun t=>[])
  (fun t=>Z) ?_ (0,l.length) ⟨Nat.zero_le _,pos_le l n,Nat.le_refl _⟩ _ _ hdM
 rintro⟨lo,hi⟩ ⟨h1,h2,h3⟩ R hR;simp only at h1 h2 h3 ⊢;by_cases c:lo<hi
 ·have hm:=half lo hi;have hmid:(lo+hi) / 2<l.length:=by omega
  have hp:=pos_iff hs n _ hmid;obtain⟨mid,hmd⟩:∃ mid,mid=(lo+hi) / 2:=⟨_,rfl⟩;simp only[<- hmd] at hm hmid hp;have g1:(l.map Fil.enc)[mid]?=some l[mid].enc:=by simp[hmid]
  by_cases c2:bl l[mid].name n=true
  ·have:=hp.1 c2;have hcn:cmpF l[mid].name n<0:=(cmp_neg _ _).2 c2;(simp(disch:=first|decide|omega|(intros;exact Eq.trans rfl rfl)|simp only[puri]) only[a128_0,↓shr1,hm,g1,Fil.len,Fil.tkL,Fil.tk,↓hc,hcn,go_sem,seval,dis])
   exact hR (mid+1,hi) (by simp only[];omega) ⟨by simp only[];omega,h2,h3⟩ _ _ hdM
  ·have:¬ mid<posF l n:=fun h=>c2 (hp.2 h)
   have hcn:¬ cmpF l[mid].name n<0:=fun h=>c2 ((cmp_neg _ _).1 h)
   (simp(disch:=first|decide|omega|(intros;exact Eq.trans rfl rfl)|simp only[puri]) only[a128_0,↓shr1,hm,g1,Fil.len,Fil.tkL,Fil.tk,↓hc,hcn,go_sem,seval,dis])
   exact hR (lo,mid) (by simp only[];omega) ⟨h1,by simp only[];omega,by simp only[];omega⟩ _ _ hdM
 ·have hlo:lo=posF l n:=by omega
  subst hlo;by_cases c0:posF l n<l.length
  ·have g1:(l.map Fil.enc)[posF l n]?=some l[posF l n].enc:=by simp[c0]
   have hhas:hasF l n=decide (l[posF l n].name=n):=by unfold hasF;rw[List.getElem?_eq_getElem c0]
   by_cases c3:l[posF l n].name=n
   ·have hcz:cmpF l[posF l n].name n=0:=cmp_zero.2 c3;(simp(disch:=first|decide|omega|(intros;exact Eq.trans rfl rfl)|simp only[puri]) only[a128_0,c,c0,g1,Fil.len,Fil.tkL,Fil.tk,↓hc,hcz,go_sem,seval,dis])
    rw[hZ];simp[findFV,hhas,c3]
   ·have hcz:¬ cmpF l[posF l n].name n=0:=fun h=>c3 (cmp_zero.1 h)
    (simp(disch:=first|decide|omega|(intros;exact Eq.trans rfl rfl)|simp only[puri]) only[a128_0,c,c0,g1,Fil.len,Fil.tkL,Fil.tk,↓hc,hcz,go_sem,seval,dis])
    rw[hZ];simp[findFV,hhas,c3]
  ·have hhas:hasF l n=false:=by unfold hasF;rw[List.getElem?_eq_none (by omega)]
   (simp(disch:=first|decide|omega|(intros;exact Eq.trans rfl rfl)|simp only[puri]) only[a128_0,c,c0,go_sem,seval,dis])
   rw[hZ];simp[findFV,hhas]
set_option maxRecDepth 8000 in
set_option maxHeartbeats 1000000 in
theorem bsearch_box (l:List Fil) (hl:l.length<=1000000) (hs:srt l) (n:Txt):call 128 [.one (.sl 0 3 0 l.length),vs n,.one (.f 129 [])] [.arr 3 (l.map Fil.enc) 0]=some (findFV l n,[.arr 3 (l.map Fil.enc) 0]):=by
 apply enterS s128 rfl;have hc:=fun(f:Fil)=>cmpI f n
 obtain⟨Z,hZ⟩:∃ Z:V × Hp,Z=(findFV l n,[.arr 3 (l.map Fil.enc) 0]):=⟨_,rfl⟩;rw[<- hZ];(simp(disch:=first|decide|omega|(intros;exact Eq.trans rfl rfl)|simp only[puri]) only[a128,go_sem,seval,dis])
 refine loop_boxM (m:=1) (σ:=Nat × Nat) (fun t=>t.2-t.1) (fun t=>t.1<=posF l n∧posF l n<=t.2∧t.2<=l.length) (fun t=>[V.one (.sl 0 3 0 l.length),vs n,.one (.f 129 []),vi l.length,vi t.1,vi t.2]) (fun t=>[.arr 3 (l.map Fil.enc) 0])
  (fun t=>Z) ?_ (0,l.length) ⟨Nat.zero_le _,pos_le l n,Nat.le_refl _⟩ _ _ hdM
 rintro⟨lo,hi⟩ ⟨h1,h2,h3⟩ R hR;simp only at h1 h2 h3 ⊢;by_cases c:lo<hi
 ·have hm:=half lo hi;have hmid:(lo+hi) / 2<l.length:=by omega
  have hp:=pos_iff hs n _ hmid;obtain⟨mid,hmd⟩:∃ mid,mid=(lo+hi) / 2:=⟨_,rfl⟩;simp only[<- hmd] at hm hmid hp;have g1:(l.map Fil.enc)[mid]?=some l[mid].enc:=by simp[hmid]
  by_cases c2:bl l[mid].name n=true
  ·have:=hp.1 c2;have hcn:cmpF l[mid].name n<0:=(cmp_neg _ _).2 c2;(simp(disch:=first|decide|omega|(intros;exact Eq.trans rfl rfl)|simp only[puri]) only[a128_0,↓shr1,hm,g1,Fil.len,Fil.tkL,Fil.tk,↓hc,hcn,go_sem,seval,dis])
   exact hR (mid+1,hi) (by simp only[];omega) ⟨by simp only[];omega,h2,h3⟩ _ _ hdM
  ·have:¬ mid<posF l n:=fun h=>c2 (hp.2 h)
   have hcn:¬ cmpF l[mid].name n<0:=fun h=>c2 ((cmp_neg _ _).1 h)
   (simp(disch:=first|decide|omega|(intros;exact Eq.trans rfl rfl)|simp only[puri]) only[a128_0,↓shr1,hm,g1,Fil.len,Fil.tkL,Fil.tk,↓hc,hcn,go_sem,seval,dis])
   exact hR (lo,mid) (by simp only[];omega) ⟨h1,by simp only[];omega,by simp only[];omega⟩ _ _ hdM
 ·have hlo:lo=posF l n:=by omega
  subst hlo;by_cases c0:posF l n<l.length
  ·have g1:(l.map Fil.enc)[posF l n]?=some l[posF l n].enc:=by simp[c0]
   have hhas:hasF l n=decide (l[posF l n].name=n):=by unfold hasF;rw[List.getElem?_eq_getElem c0]
   by_cases c3:l[posF l n].name=n
   ·have hcz:cmpF l[posF l n].name n=0:=cmp_zero.2 c3;(simp(disch:=first|decide|omega|(intros;exact Eq.trans rfl rfl)|simp only[puri]) only[a128_0,c,c0,g1,Fil.len,Fil.tkL,Fil.tk,↓hc,hcz,go_sem,seval,dis])
    rw[hZ];simp[findFV,hhas,c3,trim,V.refs,L.refs,Box.refs]
   ·have hcz:¬ cmpF l[posF l n].name n=0:=fun h=>c3 (cmp_zero.1 h)
    (simp(disch:=first|decide|omega|(intros;exact Eq.trans rfl rfl)|simp only[puri]) only[a128_0,c,c0,g1,Fil.len,Fil.tkL,Fil.tk,↓hc,hcz,go_sem,seval,dis])
    rw[hZ];simp[findFV,hhas,c3,trim,V.refs,L.refs,Box.refs]
  ·have hhas:hasF l n=false:=by unfold hasF;rw[List.getElem?_eq_none (by omega)]
   (simp(disch:=first|decide|omega|(intros;exact Eq.trans rfl rfl)|simp only[puri]) only[a128_0,c,c0,go_sem,seval,dis])
   rw[hZ];simp[findFV,hhas,trim,V.refs,L.refs,Box.refs]
theorem find_data (l:List Fil) (hl:l.length<=1000000) (hs:srt l) (n:Txt):call 107 [vl (l.map Fil.enc),vs n] []=some (findFV l n,[]):=by
 apply enterS s107 rfl;have h:∀ H,callIso call 128 [vl (l.map Fil.enc),vs n,.one (.f 129 [])] H=some (findFV l n,H):=fun H=>callIso_pure rfl (bsearch_data l hl hs n) rfl
 unfold findFV at h ⊢;(simp(disch:=first|decide|omega|(intros;exact Eq.trans rfl rfl)|simp only[puri]) only[a107,↓h,go_sem,seval,dis])
 try simp[trim]
theorem find_box (l:List Fil) (hl:l.length<=1000000) (hs:srt l) (n:Txt):call 107 [.one (.sl 0 3 0 l.length),vs n] [.arr 3 (l.map Fil.enc) 0]=some (findFV l n,[.arr 3 (l.map Fil.enc) 0]):=by
 apply enterS s107 rfl;have h:callIso call 128 [.one (.sl 0 3 0 l.length),vs n,.one (.f 129 [])] [.arr 3 (l.map Fil.enc) 0]=some (findFV l n,[.arr 3 (l.map Fil.enc) 0]) :=
  iso_at (ids:=[0]) rfl rfl rfl (bsearch_box l hl hs n) rfl
 unfold findFV at h ⊢;(simp(disch:=first|decide|omega|(intros;exact Eq.trans rfl rfl)|simp only[puri]) only[a107,↓h,go_sem,seval,dis])
 simp[trim,V.refs,L.refs,Box.refs]
def readF (l:List Fil) (n:Txt):Txt × Int:=match l[posF l n]? with|some f=>if f.name=n then(f.data,0) else([],7)|none=>([],7)
theorem read_disk (d:Dsk) (hl:d.files.length<=1000000) (hs:srt d.files) (n:Txt):call 111 [.agg d.l,vs n] []=some (.tup [(false,[.d (.s (readF d.files n).1)]),(false,[.d (.i .i64 (readF d.files n).2)])],[]):=by
 apply enterS s111 rfl;have h:=find_data d.files hl hs n;unfold findFV hasF at h;unfold readF;by_cases c:posF d.files n<d.files.length
 ·rw[List.getElem?_eq_getElem c] at h ⊢;have g1:(d.files.map Fil.enc)[posF d.files n]?=some d.files[posF d.files n].enc:=by simp[c]
  by_cases c2:d.files[posF d.files n].name=n
  ·simp only[c2,decide_true] at h;(simp(disch:=first|decide|omega|(intros;exact Eq.trans rfl rfl)|simp only[puri]) only[a111,Dsk.l,h,g1,Fil.len,Fil.tkL,Fil.tk,Fil.at1,go_sem,seval,dis])
   simp[c2]
  ·simp only[c2,decide_false] at h;(simp(disch:=first|decide|omega|(intros;exact Eq.trans rfl rfl)|simp only[puri]) only[a111,Dsk.l,h,go_sem,seval,dis])
   simp[c2]
 ·rw[List.getElem?_eq_none (by omega)] at h ⊢
  (simp(disch:=first|decide|omega|(intros;exact Eq.trans rfl rfl)|simp only[puri]) only[a111,Dsk.l,h,go_sem,seval,dis])
  try simp
def usedF (l:List Fil):Nat:=(l.map fun f=>f.data.length).sum
theorem used_app (a b:List Fil):usedF (a++b)=usedF a+usedF b:=by unfold usedF;rw[List.map_append,List.sum_append]
theorem used_one (f:Fil):usedF [f]=f.data.length:=by simp[usedF]
theorem used_take (l:List Fil) (i:Nat):usedF (l.take i)<=usedF l:=by
 have:=used_app (l.take i) (l.drop i);rw[List.take_append_drop] at this;omega
theorem used_spec (d:Dsk) (hl:d.files.length<=1000000) (hu:usedF d.files<=1000000000000):call 80 [.agg d.l] []=some (vi (usedF d.files:Nat),[]):=by
 apply enterS s80 rfl;(simp(disch:=first|decide|omega|(intros;exact Eq.trans rfl rfl)|simp only[puri]) only[a80,Dsk.l,go_sem,seval,dis])
 refine loop_boxM (m:=0) (σ:=Nat) (fun i=>d.files.length-i) (fun i=>i<=d.files.length) (fun i=>[vi (usedF (d.files.take i):Nat),vl (d.files.map Fil.enc),vi d.files.length,vi i]) (fun i=>[])
  (fun t=>(vi (usedF d.files:Nat),[])) ?_ 0 (Nat.zero_le _) _ _ ?_
 rotate_left
 ·exact hdM
 intro i hi R hR;have hle:=used_take d.files i;by_cases c:i<d.files.length
 ·have hR':=hR (i+1) (by omega) (by omega)
  have e1:usedF (d.files.take (i+1))=usedF (d.files.take i)+d.files[i].data.length:=by
   rw[List.take_succ_eq_append_getElem c,used_app,used_one]
  have hle2:=used_take d.files (i+1);have g1:(d.files.map Fil.enc)[i]?=some d.files[i].enc:=by simp[c]
  rw[e1] at hR' hle2;generalize usedF (d.files.take i)=u at *;(simp(disch:=first|decide|omega|(intros;exact Eq.trans rfl rfl)|simp only[puri]) only[a80_0,g1,Fil.len,Fil.tkL,Fil.tk,Fil.at1,Fil.fd1,Fil.lenL,List.length_map,go_sem,seval,dis])
  exact hR' _ _ hdM
 ·have hi2:i=d.files.length:=by omega
  subst hi2;rw[List.take_length];(simp(disch:=first|decide|omega|(intros;exact Eq.trans rfl rfl)|simp only[puri]) only[a80_0,go_sem,seval,dis])
  try simp[trim]
end Go.Proofs.YthlnpioogbmogaaGreat
