import Derived.Test.YtghfhomfppbooaaGreatXZ14Tab
import Derived.Test.YtghfhomfppbooaaGreatVid
set_option linter.unusedSimpArgs false
set_option linter.unusedVariables false
namespace Go.Proofs.YtghfhomfppbooaaGreat
open Go.Vi
theorem refOn_spec (sum:W32) (s:List UInt8) (hs:s.length<=9223372036854775807):call 66 [vk .u32 ((sum.toNat:Nat):Int),vs s] []=some (vk .u32 (((crcOn sum s).toNat:Nat):Int),[]):=by
 apply enterS s66 rfl;(simp(disch:=first|decide|omega|(intros;exact Eq.trans rfl rfl)|simp only[puri]) only[a66,↓bit32,go_sem,seval,dis])
 refine loop_data (σ:=Nat) (fun k=>s.length-k) (fun k=>k<=s.length) (fun k=>[vs s,vk .u32 ((((s.take k).foldl crcB (~~~sum)).toNat:Nat):Int),vi k]) (fun _=>(vk .u32 (((crcOn sum s).toNat:Nat):Int),[])) (fun _=>by simp only[go_sem,seval]) ?_ 0 (Nat.zero_le _) _ (by simp[go_sem,seval])
 intro k hk R hR;rcases Nat.lt_or_ge k s.length with h|h
 ·(simp(disch:=first|decide|omega|(intros;exact Eq.trans rfl rfl)|simp only[puri]) only[a66_0,↓bit32,str_get s k h,cvi32_byte,go_sem,seval,dis])
  have e1:(s.take (k+1)).foldl crcB (~~~sum)=crcB ((s.take k).foldl crcB (~~~sum)) s[k]:=by rw[take_succ_get s k h,List.foldl_append];rfl
  generalize (s.take k).foldl crcB (~~~sum)=x at *;refine loop_data (σ:=Nat) (fun j=>8-j) (fun j=>j<=8) (fun j=>[vs s,vk .u32 (((crcN j (x ^^^ BitVec.ofNat 32 s[k].toNat)).toNat:Nat):Int),vi k,vi j]) (fun _=>(vk .u32 (((crcOn sum s).toNat:Nat):Int),[])) (fun _=>by simp only[go_sem,seval]) ?_ 0 (Nat.zero_le _) _ (by simp[crcN,go_sem,seval])
  intro j hj R2 hR2;rcases Nat.lt_or_ge j 8 with hj8|hj8
  ·have e2:crcN (j+1) (x ^^^ BitVec.ofNat 32 s[k].toNat)=crc1 (crcN j (x ^^^ BitVec.ofNat 32 s[k].toNat)):=crcN_add j 1 _;generalize crcN j (x ^^^ BitVec.ofNat 32 s[k].toNat)=y at *;cases hb:y.getLsbD 0 with
   | true =>
    have e3:crc1 y=(y >>> 1) ^^^ crcP:=by unfold crc1;rw[hb];rfl
    (simp(disch:=first|decide|omega|(intros;exact Eq.trans rfl rfl)|simp only[puri]) only[a66_1,↓bit32,hb,go_sem,seval,dis])
    exact hR2 (j+1) (by omega) (by omega) _ (by simp[e2,e3,go_sem,seval])
   | false =>
    have e3:crc1 y=y >>> 1:=by unfold crc1;rw[hb];rfl
    (simp(disch:=first|decide|omega|(intros;exact Eq.trans rfl rfl)|simp only[puri]) only[a66_1,↓bit32,hb,go_sem,seval,dis])
    exact hR2 (j+1) (by omega) (by omega) _ (by simp[e2,e3,go_sem,seval])
  ·have:j=8:=by omega
   subst this;(simp(disch:=first|decide|omega|(intros;exact Eq.trans rfl rfl)|simp only[puri]) only[a66_1,go_sem,seval,dis])
   exact hR (k+1) (by omega) (by omega) _ (by simp[e1,crcB,go_sem,seval])
 ·(simp(disch:=first|decide|omega|(intros;exact Eq.trans rfl rfl)|simp only[puri]) only[a66_0,↓bit32,go_sem,seval,dis])
  rw[List.take_of_length_le h];rfl
theorem refOf_spec (s:List UInt8) (hs:s.length<=9223372036854775807):call 31 [vs s] []=some (vk .u32 (((crcOn 0#32 s).toNat:Nat):Int),[]):=by
 apply enterS s31 rfl;have h:call 66 [vk .u32 0,vs s] []=some (vk .u32 (((crcOn 0#32 s).toNat:Nat):Int),[]):=refOn_spec 0#32 s hs;(simp(disch:=first|decide|omega|(intros;exact Eq.trans rfl rfl)|simp only[puri]) only[a31,h,go_sem,seval,dis])
theorem four_spec (x:W32):call 126 [vk .u32 ((x.toNat:Nat):Int)] []=some (vs (four x),[]):=by
 apply enterS s126 rfl;(simp(disch:=first|decide|omega|(intros;exact Eq.trans rfl rfl)|simp only[puri]) only[a126,↓bit32,wrap8_nat,bytesOf_nil,bytesOf_cons,byte_mod,four,List.replicate,go_sem,seval,dis])
theorem refFour_spec (x:W32):call 113 [vk .u32 ((x.toNat:Nat):Int)] []=some (vs (four x),[]):=by
 apply enterS s113 rfl;(simp(disch:=first|decide|omega|(intros;exact Eq.trans rfl rfl)|simp only[puri]) only[a113,↓bit32,wrap8_nat,bytesOf_nil,bytesOf_cons,byte_mod,four,List.replicate,go_sem,seval,dis])
theorem table_spec:call 143 [] []=some (.agg tabW,[]):=by
 apply enterS s143 rfl;(simp(disch:=first|decide|omega|(intros;exact Eq.trans rfl rfl)|simp only[puri]) only[a143,go_sem,seval,dis])
 refine loop_box (σ:=Nat) (fun k=>16-k) (fun k=>k<=16) (fun k=>[.one (.p 0 0),.one (.p 1 0),vi k]) (fun k=>[.cells (tabK 0),.cells (tabK k)]) (fun _=>(V.agg tabW,([]:Hp))) ?_ 0 (Nat.zero_le _) _ _ ?_
 ·intro k hk R hR;rcases Nat.lt_or_ge k 16 with h|h
  ·(simp(disch:=first|decide|omega|(intros;exact Eq.trans rfl rfl)|simp only[puri]) only[a143_0,↓bit32,go_sem,seval,dis])
   have e0:k % 4294967296=k:=Nat.mod_eq_of_lt (by omega)
   refine loop_box (σ:=Nat) (fun j=>4-j) (fun j=>j<=4) (fun j=>[.one (.p 0 0),.one (.p 1 0),vi k,vk .u32 (((crcN j (BitVec.ofNat 32 k)).toNat:Nat):Int),vi k,vi j]) (fun _=>[.cells (tabK 0),.cells (tabK k)]) (fun _=>(V.agg tabW,([]:Hp))) ?_ 0 (Nat.zero_le _) _ _ ?_
   ·intro j hj R2 hR2;rcases Nat.lt_or_ge j 4 with hj4|hj4
    ·have e2:crcN (j+1) (BitVec.ofNat 32 k)=crc1 (crcN j (BitVec.ofNat 32 k)):=crcN_add j 1 _;generalize crcN j (BitVec.ofNat 32 k)=y at *;(simp(disch:=first|decide|omega|(intros;exact Eq.trans rfl rfl)|simp only[puri]) only[a143_1,↓bit32,↓and1,↓tableStep,<- crc1_eq,go_sem,seval,dis])
     exact hR2 (j+1) (by omega) (by omega) _ _ (at_head2 (by decide) (by simp only[List.map_cons,List.map_nil,go_sem,seval];exact rfl) (by simp[idsOf,reach,place_cons,place_nil,canonH,V.ren,L.ren,Box.ren,V.refs,L.refs,Box.refs,e2,tabK_refs,tabK_ren]) (by simp[idsOf,reach,place_cons,place_nil,canonH,V.ren,L.ren,Box.ren,V.refs,L.refs,Box.refs,e2,tabK_refs,tabK_ren]))
    ·have:j=4:=by omega
     subst this;(simp(disch:=first|decide|omega|(intros;exact Eq.trans rfl rfl)|simp only[puri]) only[a143_1,↓bit32,tabK_len,tabK_set k h,go_sem,seval,dis])
     exact hR (k+1) (by omega) (by omega) _ _ (at_head2 (by decide) (by simp only[List.map_cons,List.map_nil,go_sem,seval];exact rfl) (by simp[idsOf,reach,place_cons,place_nil,canonH,V.ren,L.ren,Box.ren,V.refs,L.refs,Box.refs,tabK_refs,tabK_ren]) (by simp[idsOf,reach,place_cons,place_nil,canonH,V.ren,L.ren,Box.ren,V.refs,L.refs,Box.refs,tabK_refs,tabK_ren]))
   ·exact(at_head2 (by decide) (by simp only[List.map_cons,List.map_nil,go_sem,seval];exact rfl) (by simp[idsOf,reach,place_cons,place_nil,canonH,V.ren,L.ren,Box.ren,V.refs,L.refs,Box.refs,crcN,tabK_refs,tabK_ren,e0]) (by simp[idsOf,reach,place_cons,place_nil,canonH,V.ren,L.ren,Box.ren,V.refs,L.refs,Box.refs,crcN,tabK_refs,tabK_ren,e0]))
  ·have:k=16:=by omega
   subst this;have ed:(tabK 0).drop 16=[]:=List.drop_eq_nil_of_le (by rw[tabK_len];exact Nat.le_refl _)
   have et:tabW.take 16=tabW:=List.take_of_length_le (by rw[tabW_len];exact Nat.le_refl _)
   (simp(disch:=first|decide|omega|(intros;exact Eq.trans rfl rfl)|simp only[puri]) only[a143_0,↓bit32,tabK_16,tabW_len,tabK_len,ed,et,tabW_fz,tabW_pure,go_sem,seval,dis])
 ·exact(at_head2 (by decide) (by simp only[List.map_cons,List.map_nil,go_sem,seval];exact rfl) (by simp[idsOf,reach,place_cons,place_nil,canonH,V.ren,L.ren,Box.ren,V.refs,L.refs,Box.refs,tabK_0]) (by simp[idsOf,reach,place_cons,place_nil,canonH,V.ren,L.ren,Box.ren,V.refs,L.refs,Box.refs,tabK_0]))
theorem on_spec (sum:W32) (s:List UInt8) (hs:s.length<=9223372036854775807):call 135 [vk .u32 ((sum.toNat:Nat):Int),vs s] []=some (vk .u32 (((crcOn sum s).toNat:Nat):Int),[]):=by
 apply enterS s135 rfl;have e16:tabW.length=16:=tabW_len;(simp(disch:=first|decide|omega|(intros;exact Eq.trans rfl rfl)|simp only[puri]) only[a135,↓bit32,table_spec,e16,List.append_nil,go_sem,seval,dis])
 refine loop_box (σ:=Nat) (fun k=>s.length-k) (fun k=>k<=s.length) (fun k=>[vs s,.one (.p 0 0),vk .u32 ((((s.take k).foldl crcB (~~~sum)).toNat:Nat):Int),vi s.length,vi k]) (fun _=>[.cells tabW]) (fun _=>(vk .u32 (((crcOn sum s).toNat:Nat):Int),([]:Hp))) ?_ 0 (Nat.zero_le _) _ _ (at_head2 (by decide) (by simp only[List.map_cons,List.map_nil,go_sem,seval];exact rfl) (by simp[idsOf,reach,place_cons,place_nil,canonH,V.ren,L.ren,Box.ren,V.refs,L.refs,Box.refs,tabW_refs,tabW_ren]) (by simp[idsOf,reach,place_cons,place_nil,canonH,V.ren,L.ren,Box.ren,V.refs,L.refs,Box.refs,tabW_refs,tabW_ren]))
 intro k hk R hR;rcases Nat.lt_or_ge k s.length with h|h
 ·have e1:(s.take (k+1)).foldl crcB (~~~sum)=crcB ((s.take k).foldl crcB (~~~sum)) s[k]:=by rw[take_succ_get s k h,List.foldl_append];rfl
  rw[crcB_eq] at e1;generalize (s.take k).foldl crcB (~~~sum)=x at *;have l1:=and15_lt (x ^^^ BitVec.ofNat 32 s[k].toNat);have l2:=and15_lt (((x ^^^ BitVec.ofNat 32 s[k].toNat) >>> 4) ^^^ crcN 4 ((x ^^^ BitVec.ofNat 32 s[k].toNat) &&& 15#32));(simp(disch:=first|decide|omega|(intros;exact Eq.trans rfl rfl)|simp only[puri]) only[a135_0,↓bit32,str_get s k h,cvi32_byte,tabW_at,go_sem,seval,dis])
  exact hR (k+1) (by omega) (by omega) _ _ (at_head2 (by decide) (by simp only[List.map_cons,List.map_nil,go_sem,seval];exact rfl) (by simp[idsOf,reach,place_cons,place_nil,canonH,V.ren,L.ren,Box.ren,V.refs,L.refs,Box.refs,tabW_refs,tabW_ren,e1]) (by simp[idsOf,reach,place_cons,place_nil,canonH,V.ren,L.ren,Box.ren,V.refs,L.refs,Box.refs,tabW_refs,tabW_ren,e1]))
 ·(simp(disch:=first|decide|omega|(intros;exact Eq.trans rfl rfl)|simp only[puri]) only[a135_0,↓bit32,go_sem,seval,dis])
  rw[List.take_of_length_le h];rfl
def crcSum (l:List (List UInt8)):W32:=l.foldl crcOn 0#32
def encS (s:List UInt8):List D:=[.s s]
theorem encS_len (s:List UInt8):(encS s).length=1:=Eq.trans rfl rfl
theorem encS_at (s:List UInt8):(encS s)[0]?=some (.s s):=Eq.trans rfl rfl
theorem sum_spec (l:List (List UInt8)) (hl:l.length<=9223372036854775807) (hs:∀ s∈l,s.length<=9223372036854775807):call 106 [vl (l.map encS)] []=some (vk .u32 (((crcSum l).toNat:Nat):Int),[]):=by
 apply enterS s106 rfl;(simp(disch:=first|decide|omega|(intros;exact Eq.trans rfl rfl)|simp only[puri]) only[a106,go_sem,seval,dis])
 refine loop_data (σ:=Nat) (fun k=>l.length-k) (fun k=>k<=l.length) (fun k=>[vk .u32 ((((l.take k).foldl crcOn 0#32).toNat:Nat):Int),vl (l.map encS),vi l.length,vi k]) (fun _=>(vk .u32 (((crcSum l).toNat:Nat):Int),[])) (fun _=>by simp only[go_sem,seval]) ?_ 0 (Nat.zero_le _) _ (by simp[go_sem,seval])
 intro k hk R hR;rcases Nat.lt_or_ge k l.length with h|h
 ·have e1:(l.take (k+1)).foldl crcOn 0#32=crcOn ((l.take k).foldl crcOn 0#32) l[k]:=by rw[take_succ_get l k h,List.foldl_append];rfl
  have ho:=on_spec ((l.take k).foldl crcOn 0#32) l[k] (hs _ (List.getElem_mem h));(simp(disch:=first|decide|omega|(intros;exact Eq.trans rfl rfl)|simp only[puri]) only[a106_0,encS_len,encS_at,ho,go_sem,seval,dis])
  exact hR (k+1) (by omega) (by omega) _ (by simp[e1,go_sem,seval])
 ·(simp(disch:=first|decide|omega|(intros;exact Eq.trans rfl rfl)|simp only[puri]) only[a106_0,go_sem,seval,dis])
  rw[List.take_of_length_le h];rfl
theorem crcOn_append (x:W32) (a b:List UInt8):crcOn x (a++b)=crcOn (crcOn x a) b:=by
 simp only[crcOn,List.foldl_append,BitVec.not_not]
theorem crcSum2 (a b:List UInt8):crcSum [a,b]=crcOn 0#32 (a++b):=by simp only[crcSum,List.foldl_cons,List.foldl_nil,crcOn_append]
set_option maxRecDepth 4000 in
theorem len64_spec (n:Nat) (hn:n<18446744073709551616):call 149 [vk .u64 ((n:Nat):Int)] []=some (vi (blen n),[]):=by
 apply enterS s149 rfl;have last:∀ m:Nat,m<256->IntKind.u8.wrap ((m:Nat):Int)=((m:Nat):Int):=fun m h=>wrap_u8 (by omega)
 have tab:∀ m:Nat,m<256->IntKind.i64.wrap (((UInt8.ofNat (blen m)).toNat:Nat):Int)=((blen m:Nat):Int):=fun m h=>by
  rw[blen_small h];have:=(blen_le m 8).2 h;exact wrap_i (by omega)
 have b8:∀ m:Nat,m<256->blen m<=8:=fun m h=>(blen_le m 8).2 h
 by_cases c0:4294967296<=n
 ·have e0:=blen_shift (n) 32 c0;simp only[Nat.reducePow] at e0;by_cases c1:65536<=n / 4294967296
  ·have e1:=blen_shift (n / 4294967296) 16 c1;simp only[Nat.reducePow] at e1;by_cases c2:256<=n / 4294967296 / 65536
   ·have e2:=blen_shift (n / 4294967296 / 65536) 8 c2;simp only[Nat.reducePow] at e2;have hm:n / 4294967296 / 65536 / 256<256:=by omega
    have:=b8 _ hm;have e:((blen n:Nat):Int)=32+16+8+((blen (n / 4294967296 / 65536 / 256):Nat):Int):=by omega
    rw[e];(simp(disch:=first|decide|omega|(intros;exact Eq.trans rfl rfl)|simp only[puri]) only[a149,↓shr64_32,↓shr64_16,↓shr64_8,last _ hm,len8_all _ hm,tab _ hm,Int.zero_add,go_sem,seval,dis])
   ·skip
    have hm:n / 4294967296 / 65536<256:=by omega
    have:=b8 _ hm;have e:((blen n:Nat):Int)=32+16+((blen (n / 4294967296 / 65536):Nat):Int):=by omega
    rw[e];(simp(disch:=first|decide|omega|(intros;exact Eq.trans rfl rfl)|simp only[puri]) only[a149,↓shr64_32,↓shr64_16,↓shr64_8,last _ hm,len8_all _ hm,tab _ hm,Int.zero_add,go_sem,seval,dis])
  ·skip
   by_cases c2:256<=n / 4294967296
   ·have e2:=blen_shift (n / 4294967296) 8 c2;simp only[Nat.reducePow] at e2;have hm:n / 4294967296 / 256<256:=by omega
    have:=b8 _ hm;have e:((blen n:Nat):Int)=32+8+((blen (n / 4294967296 / 256):Nat):Int):=by omega
    rw[e];(simp(disch:=first|decide|omega|(intros;exact Eq.trans rfl rfl)|simp only[puri]) only[a149,↓shr64_32,↓shr64_16,↓shr64_8,last _ hm,len8_all _ hm,tab _ hm,Int.zero_add,go_sem,seval,dis])
   ·skip
    have hm:n / 4294967296<256:=by omega
    have:=b8 _ hm;have e:((blen n:Nat):Int)=32+((blen (n / 4294967296):Nat):Int):=by omega
    rw[e];(simp(disch:=first|decide|omega|(intros;exact Eq.trans rfl rfl)|simp only[puri]) only[a149,↓shr64_32,↓shr64_16,↓shr64_8,last _ hm,len8_all _ hm,tab _ hm,Int.zero_add,go_sem,seval,dis])
 ·skip
  by_cases c1:65536<=n
  ·have e1:=blen_shift (n) 16 c1;simp only[Nat.reducePow] at e1;by_cases c2:256<=n / 65536
   ·have e2:=blen_shift (n / 65536) 8 c2;simp only[Nat.reducePow] at e2;have hm:n / 65536 / 256<256:=by omega
    have:=b8 _ hm;have e:((blen n:Nat):Int)=16+8+((blen (n / 65536 / 256):Nat):Int):=by omega
    rw[e];(simp(disch:=first|decide|omega|(intros;exact Eq.trans rfl rfl)|simp only[puri]) only[a149,↓shr64_32,↓shr64_16,↓shr64_8,last _ hm,len8_all _ hm,tab _ hm,Int.zero_add,go_sem,seval,dis])
   ·skip
    have hm:n / 65536<256:=by omega
    have:=b8 _ hm;have e:((blen n:Nat):Int)=16+((blen (n / 65536):Nat):Int):=by omega
    rw[e];(simp(disch:=first|decide|omega|(intros;exact Eq.trans rfl rfl)|simp only[puri]) only[a149,↓shr64_32,↓shr64_16,↓shr64_8,last _ hm,len8_all _ hm,tab _ hm,Int.zero_add,go_sem,seval,dis])
  ·skip
   by_cases c2:256<=n
   ·have e2:=blen_shift (n) 8 c2;simp only[Nat.reducePow] at e2;have hm:n / 256<256:=by omega
    have:=b8 _ hm;have e:((blen n:Nat):Int)=8+((blen (n / 256):Nat):Int):=by omega
    rw[e];(simp(disch:=first|decide|omega|(intros;exact Eq.trans rfl rfl)|simp only[puri]) only[a149,↓shr64_32,↓shr64_16,↓shr64_8,last _ hm,len8_all _ hm,tab _ hm,Int.zero_add,go_sem,seval,dis])
   ·skip
    have hm:n<256:=by omega
    have:=b8 _ hm;have e:((blen n:Nat):Int)=((blen (n):Nat):Int):=by omega
    rw[e];(simp(disch:=first|decide|omega|(intros;exact Eq.trans rfl rfl)|simp only[puri]) only[a149,↓shr64_32,↓shr64_16,↓shr64_8,last _ hm,len8_all _ hm,tab _ hm,Int.zero_add,go_sem,seval,dis])
theorem len_spec (n:Nat) (hn:n<9223372036854775808):call 142 [vi n] []=some (vi (nd n),[]):=by
 apply enterS s142 rfl;have h64:=len64_spec n (by omega)
 have hb:blen n<=63:=(blen_le n 63).2 (by omega)
 have hq:(((blen n:Nat):Int)+6).tdiv 7=(((blen n+6) / 7:Nat):Int):=by rw[Int.tdiv_eq_ediv_of_nonneg (by omega)];omega
 have hm:=nd_blen n;by_cases c:1<(blen n+6) / 7
 ·have e:nd n=(blen n+6) / 7:=by omega
  rw[e];(simp(disch:=first|decide|omega|(intros;exact Eq.trans rfl rfl)|simp only[puri]) only[a142,h64,hq,go_sem,seval,dis])
 ·have e:nd n=1:=by omega
  have c':¬ (((blen n+6) / 7:Nat):Int) > 1:=by omega
  rw[e];(simp(disch:=first|decide|omega|(intros;exact Eq.trans rfl rfl)|simp only[puri]) only[a142,h64,hq,if_neg c',go_sem,seval,dis])
  try rfl
theorem put_spec (n:Nat) (hn:n<9223372036854775808):call 124 [vi n] []=some (vs (enc128 n),[]):=by
 apply enterS s124 rfl;have hl:=len_spec n hn;have h9:=nd_le9 hn;obtain⟨m,hm⟩:∃ m,nd n=m+1:=⟨nd n-1,by have:=nd_pos n;omega⟩
 have hlast:=putR_last n m hm;have hlt:n / 128 ^ m<128:=by
  have:=((nd_range m n).1 hm).1;rw[Nat.div_lt_iff_lt_mul (Nat.pow_pos (by decide))]
  rwa [Nat.pow_succ,Nat.mul_comm] at this
 rw[hm] at hl h9;(simp(disch:=first|decide|omega|(intros;exact Eq.trans rfl rfl)|simp only[puri]) only[a124,hl,Int.mul_one,go_sem,seval,dis])
 refine loop_box (σ:=Nat) (fun k=>m+1-k) (fun k=>k<=m+1) (fun k=>[vi n,.one (.sl 0 1 0 (m+1)),vi ((m+1:Nat):Int),vi k]) (fun k=>[.arr 1 (putR n (m+1) k) 0]) (fun _=>(vs (enc128 n),([]:Hp))) ?_ 0 (Nat.zero_le _) _ _ (at_head2 (by decide) (by simp only[List.map_cons,List.map_nil,go_sem,seval];exact rfl) (by simp[idsOf,reach,place_cons,place_nil,canonH,V.ren,L.ren,Box.ren,V.refs,L.refs,Box.refs,putR_zero]) (by simp[idsOf,reach,place_cons,place_nil,canonH,V.ren,L.ren,Box.ren,V.refs,L.refs,Box.refs,putR_zero]))
 intro k hk R hR;rcases Nat.lt_or_ge k (m+1) with h|h
 ·have hsh:binD .shr (.i .i64 ((n:Nat):Int)) (.i .u64 (7*((k:Nat):Int)))=some (.i .i64 ((n / 2 ^ (7*k):Nat):Int)):=shr_nat .i64 .u64 n (7*k) (by show 7*k<=64;omega)
  have e2:(2:Nat) ^ (7*k)=128 ^ k:=by rw[Nat.pow_mul]
  have hg:=putR_get n (m+1) k k h;have hs:=putR_set n (m+1) k h;rw[e2] at hsh;(simp(disch:=first|decide|omega|(intros;exact Eq.trans rfl rfl)|simp only[puri]) only[a124_0,↓hsh,wrap8_nat,↓or8,hg,hs,go_sem,seval,dis])
  exact hR (k+1) (by omega) (by omega) _ _ (at_head2 (by decide) (by simp only[List.map_cons,List.map_nil,go_sem,seval];exact rfl) (by simp[idsOf,reach,place_cons,place_nil,canonH,V.ren,L.ren,Box.ren,V.refs,L.refs,Box.refs,true_and]) (by simp[idsOf,reach,place_cons,place_nil,canonH,V.ren,L.ren,Box.ren,V.refs,L.refs,Box.refs,true_and]))
 ·have hk':k=m+1:=by omega
  subst hk';have hg:=putR_get n (m+1) (m+1) m (by omega)
  have hd:putD n (m+1) m=128+n / 128 ^ m:=by unfold putD;rw[if_pos (by omega),Nat.mod_eq_of_lt hlt]
  rw[hd] at hg;generalize n / 128 ^ m=q at hlast hlt hg;have ha:=and8 (128+q) (by omega)
  have hmod:(128+q) % 128=q:=by omega
  rw[hmod] at ha;have hpl:=putR_len n (m+1) (m+1);have hw:IntKind.i64.wrap (((m+1:Nat):Int)-1)=((m:Nat):Int):=by rw[wrap_i (by omega)];omega
  have hel:(enc128 n).length=m+1:=hm;have htk:(rowsOfBytes (enc128 n)).take (m+1)=rowsOfBytes (enc128 n):=List.take_of_length_le (by rw[rowsOfBytes_len,hel];exact Nat.le_refl _)
  (simp(disch:=first|decide|omega|(intros;exact Eq.trans rfl rfl)|simp only[puri]) only[a124_0,hw,hg,↓ha,hlast,hpl,rowsOfBytes_len,hel,htk,bytesOf_rows,go_sem,seval,dis])
theorem refPut_spec (n:Nat) (hn:n<9223372036854775808):call 111 [vi n] []=some (vs (enc128 n),[]):=by
 apply enterS s111 rfl;(simp(disch:=first|decide|omega|(intros;exact Eq.trans rfl rfl)|simp only[puri]) only[a111,go_sem,seval,dis])
 refine loop_box (σ:=Nat × List UInt8) (fun s=>s.1) (fun s=>s.1<9223372036854775808∧s.2++enc128 s.1=enc128 n∧s.2.length+nd s.1<=9) (fun s=>[vi s.1,vs s.2]) (fun _=>[]) (fun _=>(vs (enc128 n),([]:Hp))) ?_ (n,[]) ⟨hn,rfl,by simpa using nd_le9 hn⟩ _ _ (at_head2 (by decide) (by simp only[List.map_cons,List.map_nil,go_sem,seval];exact rfl) (by simp[idsOf,reach,place_cons,place_nil,canonH,V.ren,L.ren,Box.ren,V.refs,L.refs,Box.refs,true_and]) (by simp[idsOf,reach,place_cons,place_nil,canonH,V.ren,L.ren,Box.ren,V.refs,L.refs,Box.refs,true_and]))
 rintro⟨k,l⟩ ⟨hk,he,hl⟩ R hR;simp only at hk he hl;rcases Nat.lt_or_ge k 128 with h|h
 ·rw[enc_small h] at he;have hnd:=nd_pos k;(simp(disch:=first|decide|omega|(intros;exact Eq.trans rfl rfl)|simp only[puri]) only[a111_0,wrap8_nat,bytesOf_nil,bytesOf_cons,byte_mod,go_sem,seval,dis])
  rw[he]
 ·have hq:((k:Nat):Int).tdiv 128=((k / 128:Nat):Int):=by rw[Int.tdiv_eq_ediv_of_nonneg (by omega)];omega
  have hr:((k:Nat):Int).tmod 128=((k % 128:Nat):Int):=by rw[Int.tmod_eq_emod_of_nonneg (by omega)];omega
  rw[enc_big (by omega)] at he
  rw[nd_big (by omega)] at hl
  have hw:IntKind.u8.wrap (128+((k % 128:Nat):Int))=((128+k % 128:Nat):Int):=by rw[wrap_u8 (by omega)];omega
  have hb:UInt8.ofNat (((128+k % 128:Nat):Int)).toNat=UInt8.ofNat (128+k % 128):=rfl;(simp(disch:=first|decide|omega|(intros;exact Eq.trans rfl rfl)|simp only[puri]) only[a111_0,hq,hr,hw,bytesOf_nil,bytesOf_cons,go_sem,seval,dis])
  exact hR (k / 128,l++[UInt8.ofNat (128+k % 128)]) (by simp only[];omega) ⟨by simp only[];omega,by simp only[];rw[List.append_assoc];exact he,by simp only[List.length_append,List.length_cons,List.length_nil];omega⟩ _ _ (at_head2 (by decide) (by simp only[List.map_cons,List.map_nil,go_sem,seval];exact rfl) (by simp[idsOf,reach,place_cons,place_nil,canonH,V.ren,L.ren,Box.ren,V.refs,L.refs,Box.refs,true_and]) (by simp[idsOf,reach,place_cons,place_nil,canonH,V.ren,L.ren,Box.ren,V.refs,L.refs,Box.refs,true_and]))
def rdV (a:Nat):Option (Nat × Nat)->V
 | some (n,k)=>.tup [(false,[.d (.i .i64 n)]),(false,[.d (.i .i64 ((a+k:Nat):Int))]),(false,[.d (.b true)])]
 | none=>.tup [(false,[.d (.i .i64 0)]),(false,[.d (.i .i64 0)]),(false,[.d (.b false)])]
theorem shl64 (c i:Nat) (hc:c<128) (hi:i<=8):binD .shl (.i .i64 ((c:Nat):Int)) (.i .u64 (7*((i:Nat):Int)))=some (.i .i64 ((c*2 ^ (7*i):Nat):Int))∧c*2 ^ (7*i)+2 ^ (7*i)<=9223372036854775808:=by
 have h2:2 ^ (7*i)<=2 ^ 56:=Nat.pow_le_pow_right (by decide) (by omega)
 have h3:(c+1)*2 ^ (7*i)<=128*2 ^ 56:=Nat.mul_le_mul (by omega) h2
 have h4:(128:Nat)*2 ^ 56=9223372036854775808:=by decide
 have h5:(c+1)*2 ^ (7*i)=c*2 ^ (7*i)+2 ^ (7*i):=by rw[Nat.add_mul,Nat.one_mul]
 refine⟨?_,by omega⟩
 have hp:0<2 ^ (7*i):=Nat.pow_pos (by decide)
 simp only[binD];rw[if_neg (by omega)]
 have e1:(7*((i:Nat):Int)).toNat=7*i:=by omega
 have e2:min (7*i) IntKind.i64.bits=7*i:=Nat.min_eq_left (by show 7*i<=64;omega)
 rw[e1,e2];have e3:((c:Nat):Int)*2 ^ (7*i)=((c*2 ^ (7*i):Nat):Int):=by simp
 rw[e3,wrap_i (by omega)]
theorem rdF_nil (i n:Nat):rdF [] i n=none:=rfl
theorem rdF_cons (c:UInt8) (r:List UInt8) (i n:Nat):rdF (c::r) i n=if 9<=i then none else if 128<=c.toNat then rdF r (i+1) (n+c.toNat % 128*128 ^ i) else if c.toNat=0∧0<i then none else some (n+c.toNat*128 ^ i,i+1):=rfl
set_option maxRecDepth 4000 in
theorem read_spec (s:List UInt8) (a:Nat) (ha:a<9223372036854775808) (hs:s.length<=9223372036854775807):call 133 [vs s,vi a] []=some (rdV a (rdF (s.drop a) 0 0),[]):=by
 apply enterS s133 rfl;(simp(disch:=first|decide|omega|(intros;exact Eq.trans rfl rfl)|simp only[puri]) only[a133,go_sem,seval,dis])
 refine loop_data (σ:=Nat × Nat) (fun t=>9-t.1) (fun t=>t.1<=9∧t.2<128 ^ t.1) (fun t=>[vs s,vi a,vi t.2,vi t.1]) (fun t=>(rdV a (rdF (s.drop (a+t.1)) t.1 t.2),([]:Hp))) (fun _=>by simp only[go_sem,seval]) ?_ (0,0) ⟨by decide,by decide⟩ _ (by simp[go_sem,seval])
 rintro⟨i,n⟩ ⟨hi,hn⟩ R hR;simp only at hi hn;rcases Nat.lt_or_ge (a+i) s.length with h|h
 ·rcases Nat.lt_or_ge i 9 with h9|h9
  ·simp only[List.drop_eq_getElem_cons h,rdF_cons];rw[if_neg (by omega)]
   obtain⟨c,hc⟩:∃ c,c=s[a+i]:=⟨_,rfl⟩;rw[<- hc];have hg:s[a+i]?=some c:=by rw[hc];simp[h]
   have hc8:=c.toNat_lt;have hm:c.toNat % 128<128:=Nat.mod_lt _ (by decide)
   obtain⟨hsh,hbd⟩:=shl64 (c.toNat % 128) i hm (by omega)
   have hp:(2:Nat) ^ (7*i)=128 ^ i:=by rw[Nat.pow_mul]
   have hand:=and8 c.toNat (by omega)
   have hor:=or64 n (c.toNat % 128) (7*i) (by rw[hp];exact hn) (by rw[hp] at hbd ⊢;omega)
   rw[hp] at hsh hor hbd;have hidx:(((a:Nat):Int)+((i:Nat):Int)).toNat=a+i:=by omega
   have hnat:((a+(i+1):Nat):Int)=(a:Int)+(i:Int)+1:=by omega
   have hnx:n+c.toNat % 128*128 ^ i<128 ^ (i+1):=by
    have:=Nat.mul_le_mul_right (128 ^ i) (by omega:c.toNat % 128+1<=128)
    rw[Nat.pow_succ,Nat.mul_comm (128 ^ i) 128];rw[Nat.add_mul,Nat.one_mul] at this;omega
   rcases Nat.lt_or_ge c.toNat 128 with h1|h1
   ·rw[if_neg (by omega)]
    have hmm:c.toNat % 128=c.toNat:=Nat.mod_eq_of_lt h1;rw[hmm] at hand hsh hor;by_cases h0:c.toNat=0
    ·by_cases hi0:0<i
     ·rw[if_pos ⟨h0,hi0⟩];(simp(disch:=first|decide|omega|(intros;exact Eq.trans rfl rfl)|simp only[puri]) only[a133_0,hidx,hg,↓hand,↓hsh,↓hor,rdV,go_sem,seval,dis])
     ·rw[if_neg (by omega)]
      (simp(disch:=first|decide|omega|(intros;exact Eq.trans rfl rfl)|simp only[puri]) only[a133_0,hidx,hg,↓hand,↓hsh,↓hor,hnat,rdV,go_sem,seval,dis])
    ·rw[if_neg (by omega)]
     (simp(disch:=first|decide|omega|(intros;exact Eq.trans rfl rfl)|simp only[puri]) only[a133_0,hidx,hg,↓hand,↓hsh,↓hor,hnat,rdV,go_sem,seval,dis])
   ·rw[if_pos h1];(simp(disch:=first|decide|omega|(intros;exact Eq.trans rfl rfl)|simp only[puri]) only[a133_0,hidx,hg,↓hand,↓hsh,↓hor,go_sem,seval,dis])
    exact hR (i+1,n+c.toNat % 128*128 ^ i) (by simp only[];omega) ⟨by simp only[];omega,hnx⟩ _ (by simp[go_sem,seval])
  ·have e:rdF (s.drop (a+i)) i n=none:=by
    rw[List.drop_eq_getElem_cons h,rdF_cons,if_pos h9]
   simp only[e];(simp(disch:=first|decide|omega|(intros;exact Eq.trans rfl rfl)|simp only[puri]) only[a133_0,rdV,go_sem,seval,dis])
 ·simp only[List.drop_eq_nil_of_le h,rdF_nil];rcases Nat.lt_or_ge i 9 with h9|h9
  ·(simp(disch:=first|decide|omega|(intros;exact Eq.trans rfl rfl)|simp only[puri]) only[a133_0,rdV,go_sem,seval,dis])
  ·(simp(disch:=first|decide|omega|(intros;exact Eq.trans rfl rfl)|simp only[puri]) only[a133_0,rdV,go_sem,seval,dis])
set_option maxRecDepth 4000 in
theorem refRead_spec (s:List UInt8) (a:Nat) (ha:a<9223372036854775808) (hs:s.length<=9223372036854775807):call 63 [vs s,vi a] []=some (rdV a (rdF (s.drop a) 0 0),[]):=by
 apply enterS s63 rfl;rcases Nat.lt_or_ge a s.length with hal|hal
 ·have e00:(s.take (a+0)).drop a=[]:=List.drop_eq_nil_of_le (by simp;omega)
  rw[show rdF (s.drop a) 0 0=rdF (s.drop (a+0)) 0 (val ((s.take (a+0)).drop a)) by rw[e00];rfl]
  (simp(disch:=first|decide|omega|(intros;exact Eq.trans rfl rfl)|simp only[puri]) only[a63,go_sem,seval,dis])
  refine loop_box (σ:=Nat) (fun i=>9-i) (fun i=>i<=9∧a+i<=s.length∧bigs ((s.take (a+i)).drop a)) (fun i=>[vs s,vi a,vi (val ((s.take (a+i)).drop a)),vi ((128 ^ min i 8:Nat):Int),vi i]) (fun _=>[])
   (fun i=>(rdV a (rdF (s.drop (a+i)) i (val ((s.take (a+i)).drop a))),([]:Hp))) ?_ 0 ⟨by decide,by omega,?_⟩ _ _ ?_
  ·rintro i ⟨hi,hai,hp⟩ R hR;obtain⟨p,hpe⟩:∃ p,p=(s.take (a+i)).drop a:=⟨_,rfl⟩;have hpl:=sls_len s a i hai;rw[<- hpe] at hp hpl;simp only[<- hpe];have hvl:=val_lt p;rw[hpl] at hvl;rcases Nat.lt_or_ge (a+i) s.length with h|h
   ·have hsn:=sls_snoc s a i h;rw[<- hpe] at hsn;rcases Nat.lt_or_ge i 9 with h9|h9
    ·simp only[List.drop_eq_getElem_cons h,rdF_cons];rw[if_neg (by omega)]
     obtain⟨c,hc⟩:∃ c,c=s[a+i]:=⟨_,rfl⟩;rw[<- hc] at hsn ⊢;have hg:s[a+i]?=some c:=by rw[hc];simp[h]
     have hc8:=c.toNat_lt;have hm:c.toNat % 128<128:=Nat.mod_lt _ (by decide)
     obtain⟨_,hbd⟩:=shl64 (c.toNat % 128) i hm (by omega)
     have hpw:(2:Nat) ^ (7*i)=128 ^ i:=by rw[Nat.pow_mul]
     rw[hpw] at hbd;have hmin:min i 8=i:=by omega
     have hidx:(((a:Nat):Int)+((i:Nat):Int)).toNat=a+i:=by omega
     have hr:((c.toNat:Nat):Int).tmod 128=((c.toNat % 128:Nat):Int):=by rw[Int.tmod_eq_emod_of_nonneg (by omega)];omega
     have hmul:((c.toNat % 128:Nat):Int)*((128 ^ i:Nat):Int)=((c.toNat % 128*128 ^ i:Nat):Int):=(Int.natCast_mul _ _).symm;have hw1:IntKind.i64.wrap (((c.toNat % 128*128 ^ i:Nat):Int))=((c.toNat % 128*128 ^ i:Nat):Int):=wrap_i (by omega)
     have hw2:IntKind.i64.wrap (((val p:Nat):Int)+((c.toNat % 128*128 ^ i:Nat):Int))=((val p+c.toNat % 128*128 ^ i:Nat):Int):=by rw[wrap_i (by omega)];omega
     have hwc:IntKind.i64.wrap ((c.toNat:Nat):Int)=((c.toNat:Nat):Int):=wrap_i (by omega)
     have hnat:((a+(i+1):Nat):Int)=(a:Int)+(i:Int)+1:=by omega
     have hto:((a:Int)+(i:Int)+1).toNat=a+i+1:=by omega
     rcases Nat.lt_or_ge c.toNat 128 with h1|h1
     ·rw[if_neg (by omega)]
      have hmm:c.toNat % 128=c.toNat:=Nat.mod_eq_of_lt h1;rw[hmm] at hw1 hw2 hmul hr hbd;have henc:=enc_snoc p c hp h1;rw[hpl] at henc;have hput:=refPut_spec (val p+c.toNat*128 ^ i) (by omega)
      by_cases h0:c.toNat=0∧0<i
      ·rw[if_pos h0];have hne:(enc128 (val p+c.toNat*128 ^ i) == p++[c])=false:=by
        rw[beq_eq_false_iff_ne];exact fun e=>(henc.1 e) h0
       (simp(disch:=first|decide|omega|(intros;exact Eq.trans rfl rfl)|simp only[puri]) only[a63_0,hidx,hg,hwc,hr,hmin,hmul,hw1,hw2,hput,hto,hsn,hne,rdV,go_sem,seval,dis])
      ·rw[if_neg h0];have hne:(enc128 (val p+c.toNat*128 ^ i) == p++[c])=true:=by
        rw[beq_iff_eq];exact henc.2 h0
       (simp(disch:=first|decide|omega|(intros;exact Eq.trans rfl rfl)|simp only[puri]) only[a63_0,hidx,hg,hwc,hr,hmin,hmul,hw1,hw2,hput,hto,hsn,hne,hnat,rdV,go_sem,seval,dis])
     ·rw[if_pos h1];have hv:val (p++[c])=val p+c.toNat % 128*128 ^ i:=by rw[val_snoc,hpl]
      have hb:bigs (p++[c]):=by
       intro x hx;rcases List.mem_append.1 hx with hx|hx
       ·exact hp x hx
       ·simp at hx;subst hx;exact h1
      have hR':=hR (i+1) (by omega)
      simp only[<- Nat.add_assoc,hsn,hv] at hR';rcases Nat.lt_or_ge i 8 with h8|h8
      ·have hmin2:min (i+1) 8=i+1:=by omega
       have hpb:128 ^ i*128<=128 ^ 8:=by rw[<- Nat.pow_succ];exact Nat.pow_le_pow_right (by decide) (by omega)
       have hpe8:(128:Nat) ^ 8=72057594037927936:=by decide
       have hw3:IntKind.i64.wrap (((128 ^ i:Nat):Int)*128)=((128 ^ (i+1):Nat):Int):=by
        rw[Nat.pow_succ,wrap_i (by omega)];omega
       (simp(disch:=first|decide|omega|(intros;exact Eq.trans rfl rfl)|simp only[puri]) only[a63_0,hidx,hg,hwc,hr,hmin,hmul,hw1,hw2,hw3,go_sem,seval,dis])
       exact hR' ⟨by omega,by omega,hb⟩ _ _ (at_head2 (by decide) (by simp only[List.map_cons,List.map_nil,go_sem,seval];exact rfl) (by simp[idsOf,reach,place_cons,place_nil,canonH,V.ren,L.ren,Box.ren,V.refs,L.refs,Box.refs,hmin2]) (by simp[idsOf,reach,place_cons,place_nil,canonH,V.ren,L.ren,Box.ren,V.refs,L.refs,Box.refs,hmin2]))
      ·have hi8:i=8:=by omega
       have hmin2:min (i+1) 8=i:=by omega
       (simp(disch:=first|decide|omega|(intros;exact Eq.trans rfl rfl)|simp only[puri]) only[a63_0,hidx,hg,hwc,hr,hmin,hmul,hw1,hw2,go_sem,seval,dis])
       exact hR' ⟨by omega,by omega,hb⟩ _ _ (at_head2 (by decide) (by simp only[List.map_cons,List.map_nil,go_sem,seval];exact rfl) (by simp[idsOf,reach,place_cons,place_nil,canonH,V.ren,L.ren,Box.ren,V.refs,L.refs,Box.refs,hmin2]) (by simp[idsOf,reach,place_cons,place_nil,canonH,V.ren,L.ren,Box.ren,V.refs,L.refs,Box.refs,hmin2]))
    ·have e:rdF (s.drop (a+i)) i (val p)=none:=by
      rw[List.drop_eq_getElem_cons h,rdF_cons,if_pos h9]
     simp only[e];(simp(disch:=first|decide|omega|(intros;exact Eq.trans rfl rfl)|simp only[puri]) only[a63_0,rdV,go_sem,seval,dis])
   ·simp only[List.drop_eq_nil_of_le h,rdF_nil];rcases Nat.lt_or_ge i 9 with h9|h9
    ·(simp(disch:=first|decide|omega|(intros;exact Eq.trans rfl rfl)|simp only[puri]) only[a63_0,rdV,go_sem,seval,dis])
    ·(simp(disch:=first|decide|omega|(intros;exact Eq.trans rfl rfl)|simp only[puri]) only[a63_0,rdV,go_sem,seval,dis])
  ·intro c hc;simp at hc
  ·have e0:(s.take (a+0)).drop a=[]:=List.drop_eq_nil_of_le (by simp;omega)
   have e0':(s.take a).drop a=[]:=List.drop_eq_nil_of_le (by simp;omega)
   exact(at_head2 (by decide) (by simp only[List.map_cons,List.map_nil,go_sem,seval];exact rfl) (by simp[idsOf,reach,place_cons,place_nil,canonH,V.ren,L.ren,Box.ren,V.refs,L.refs,Box.refs,e0',val]) (by simp[idsOf,reach,place_cons,place_nil,canonH,V.ren,L.ren,Box.ren,V.refs,L.refs,Box.refs,e0',val]))
 ·rw[List.drop_eq_nil_of_le hal,rdF_nil];(simp(disch:=first|decide|omega|(intros;exact Eq.trans rfl rfl)|simp only[puri]) only[a63,rdV,go_sem,seval,dis])
theorem fits_spec (n:Int):call 134 [vi n] []=some (vb (decide (1<=n) && decide (n<=65536)),[]):=by
 apply enterS s134 rfl;by_cases c:1<=n
 ·(simp(disch:=first|decide|omega|(intros;exact Eq.trans rfl rfl)|simp only[puri]) only[a134,c,go_sem,seval,dis])
 ·(simp(disch:=first|decide|omega|(intros;exact Eq.trans rfl rfl)|simp only[puri]) only[a134,c,Bool.false_and,go_sem,seval,dis])
def putV (b:List UInt8):V:=if 1<=b.length∧b.length<=65536 then .tup [(false,[.d (.s (frameF b))]),(false,[.d (.i .i64 0)])] else .tup [(false,[.d (.s [])]),(false,[.d (.i .i64 5)])]
theorem crc2_spec (a b:List UInt8) (ha:a.length<=9223372036854775807) (hb:b.length<=9223372036854775807):call 106 [vl [[.s a],[.s b]]] []=some (vk .u32 (((crcOn 0#32 (a++b)).toNat:Nat):Int),[]):=by
 have:=sum_spec [a,b] (by simp) (by intro s hs;simp at hs;rcases hs with rfl|rfl <;> assumption)
 rw[crcSum2] at this;exact this
theorem putFrame_spec (b:List UInt8) (hb:b.length<=9223372036854775807):call 125 [vs b] []=some (putV b,[]):=by
 apply enterS s125 rfl;have hf:=fits_spec b.length;unfold putV;by_cases c:1<=b.length∧b.length<=65536
 ·have e1:decide (1<=(b.length:Int))=true:=by simp;omega
  have e2:decide ((b.length:Int)<=65536)=true:=by simp;omega
  rw[e1,e2] at hf;have hp:=put_spec b.length (by omega)
  have hel:(enc128 b.length).length<=9:=nd_le9 (n:=b.length) (by omega)
  have hs:=crc2_spec (enc128 b.length) b (by omega) hb
  have h4:=four_spec (crcOn 0#32 (enc128 b.length++b));have l4:=four_len (crcOn 0#32 (enc128 b.length++b));rw[if_pos c];(simp(disch:=first|decide|omega|(intros;exact Eq.trans rfl rfl)|simp only[puri]) only[a125,hf,hp,hs,h4,l4,frameF,go_sem,seval,dis])
 ·have hf':(decide (1<=(b.length:Int)) && decide ((b.length:Int)<=65536))=false:=by rw[Bool.and_eq_false_iff,decide_eq_false_iff_not,decide_eq_false_iff_not];omega
  rw[hf'] at hf;rw[if_neg c];(simp(disch:=first|decide|omega|(intros;exact Eq.trans rfl rfl)|simp only[puri]) only[a125,hf,go_sem,seval,dis])
theorem refPutFrame_spec (b:List UInt8) (hb:b.length<=9223372036854775807):call 81 [vs b] []=some (putV b,[]):=by
 apply enterS s81 rfl;unfold putV;by_cases c:1<=b.length
 ·by_cases c2:b.length<=65536
  ·have hp:=refPut_spec b.length (by omega)
   have hel:(enc128 b.length).length<=9:=nd_le9 (n:=b.length) (by omega)
   have hs:=refOf_spec (enc128 b.length++b) (by simp;omega)
   have h4:=refFour_spec (crcOn 0#32 (enc128 b.length++b));have l4:=four_len (crcOn 0#32 (enc128 b.length++b));rw[if_pos ⟨c,c2⟩];(simp(disch:=first|decide|omega|(intros;exact Eq.trans rfl rfl)|simp only[puri]) only[a81,hp,hs,h4,l4,frameF,go_sem,seval,dis])
  ·rw[if_neg (by omega)]
   (simp(disch:=first|decide|omega|(intros;exact Eq.trans rfl rfl)|simp only[puri]) only[a81,go_sem,seval,dis])
 ·rw[if_neg (by omega)]
  (simp(disch:=first|decide|omega|(intros;exact Eq.trans rfl rfl)|simp only[puri]) only[a81,go_sem,seval,dis])
theorem open_spec (l:List UInt8) (hl:l.length<=9223372036854775807):call 132 [vs l] []=some (vb (openF l),[]):=by
 apply enterS s132 rfl;by_cases c:l.length<=8
 ·have e:openF l=(l.drop 0).all fun c=>decide (128<=c.toNat):=by simp[openF,c]
  rw[e];(simp(disch:=first|decide|omega|(intros;exact Eq.trans rfl rfl)|simp only[puri]) only[a132,go_sem,seval,dis])
  refine loop_data (σ:=Nat) (fun k=>l.length-k) (fun k=>k<=l.length) (fun k=>[vs l,vi l.length,vi k]) (fun k=>(vb ((l.drop k).all fun c=>decide (128<=c.toNat)),([]:Hp))) (fun _=>by simp only[go_sem,seval]) ?_ 0 (Nat.zero_le _) _ (by simp[go_sem,seval])
  intro k hk R hR;rcases Nat.lt_or_ge k l.length with h|h
  ·simp only[List.drop_eq_getElem_cons h,List.all_cons];by_cases c1:128<=l[k].toNat
   ·rw[decide_eq_true c1,Bool.true_and];(simp(disch:=first|decide|omega|(intros;exact Eq.trans rfl rfl)|simp only[puri]) only[a132_0,str_get l k h,go_sem,seval,dis])
    exact hR (k+1) (by first|omega|(simp only[];omega)) (by first|omega|(simp only[];omega)) _ (by simp[go_sem,seval])
   ·rw[decide_eq_false c1,Bool.false_and];(simp(disch:=first|decide|omega|(intros;exact Eq.trans rfl rfl)|simp only[puri]) only[a132_0,str_get l k h,go_sem,seval,dis])
  ·(simp(disch:=first|decide|omega|(intros;exact Eq.trans rfl rfl)|simp only[puri]) only[a132_0,List.drop_eq_nil_of_le h,List.all_nil,go_sem,seval,dis])
 ·have e:openF l=false:=by simp[openF,c]
  rw[e];(simp(disch:=first|decide|omega|(intros;exact Eq.trans rfl rfl)|simp only[puri]) only[a132,go_sem,seval,dis])
theorem ends_spec (s:List UInt8) (a:Nat) (ha:a<=s.length) (hs:s.length<=9223372036854775807):call 110 [vs s,vi a] []=some (vb (openF (s.drop a)),[]):=by
 apply enterS s110 rfl;have e:openF (s.drop a)=(((s.drop (a+0)).all fun c=>decide (128<=c.toNat)) && decide (s.length-a<=8)):=by simp[openF,Bool.and_comm]
 rw[e];(simp(disch:=first|decide|omega|(intros;exact Eq.trans rfl rfl)|simp only[puri]) only[a110,go_sem,seval,dis])
 refine loop_data (σ:=Nat) (fun k=>s.length-k) (fun k=>k<=s.length) (fun k=>[vs s,vi a,vi k]) (fun k=>(vb (((s.drop k).all fun c=>decide (128<=c.toNat)) && decide (s.length-a<=8)),([]:Hp))) (fun _=>by simp only[go_sem,seval]) ?_ a ha _ (by simp[go_sem,seval])
 intro k hk R hR;rcases Nat.lt_or_ge k s.length with h|h
 ·simp only[List.drop_eq_getElem_cons h,List.all_cons];by_cases c1:128<=s[k].toNat
  ·rw[decide_eq_true c1,Bool.true_and];(simp(disch:=first|decide|omega|(intros;exact Eq.trans rfl rfl)|simp only[puri]) only[a110_0,str_get s k h,go_sem,seval,dis])
   exact hR (k+1) (by first|omega|(simp only[];omega)) (by first|omega|(simp only[];omega)) _ (by simp[go_sem,seval])
  ·rw[decide_eq_false c1,Bool.false_and,Bool.false_and];(simp(disch:=first|decide|omega|(intros;exact Eq.trans rfl rfl)|simp only[puri]) only[a110_0,str_get s k h,go_sem,seval,dis])
 ·rw[List.drop_eq_nil_of_le h,List.all_nil,Bool.true_and];by_cases c:s.length-a<=8
  ·rw[decide_eq_true c];(simp(disch:=first|decide|omega|(intros;exact Eq.trans rfl rfl)|simp only[puri]) only[a110_0,go_sem,seval,dis])
  ·rw[decide_eq_false c];(simp(disch:=first|decide|omega|(intros;exact Eq.trans rfl rfl)|simp only[puri]) only[a110_0,go_sem,seval,dis])
def nextV (r:List UInt8 × Nat × Int):V:=.tup [(false,[.d (.s r.1)]),(false,[.d (.i .i64 ((r.2.1:Nat):Int))]),(false,[.d (.i .i64 r.2.2)])]
theorem fits_nat (n:Nat):call 134 [vi n] []=some (vb (fitsN n),[]):=by
 have:=fits_spec n;have e:(decide (1<=(n:Int)) && decide ((n:Int)<=65536))=fitsN n:=by
  unfold fitsN;congr 1 <;> (rw[decide_eq_decide];omega)
 rwa [e] at this
set_option maxRecDepth 8000 in
theorem next_spec (s:List UInt8) (a:Nat) (ha:a<9223372036854775808) (hs:s.length<=4611686018427387904):call 101 [vs s,vi a] []=some (nextV (nextF s a),[]):=by
 apply enterS s101 rfl;unfold nextF;rcases Nat.lt_or_ge a s.length with hal|hal
 ·have ho:=open_spec (s.drop a) (by simp;omega)
  cases hop:openF (s.drop a) with
  | true =>
   rw[hop] at ho;rw[if_pos (.inr rfl)];(simp(disch:=first|decide|omega|(intros;exact Eq.trans rfl rfl)|simp only[puri]) only[a101,ho,nextV,go_sem,seval,dis])
   try rfl
  | false =>
   rw[hop] at ho;rw[if_neg (by simp;omega)]
   have hrd:=read_spec s a ha (by omega)
   cases hr:rdF (s.drop a) 0 0 with
   | none =>
    rw[hr] at hrd;(simp(disch:=first|decide|omega|(intros;exact Eq.trans rfl rfl)|simp only[puri]) only[a101,ho,hrd,rdV,nextV,go_sem,seval,dis])
    try rfl
   | some q =>
    obtain⟨n,k⟩:=q;rw[hr] at hrd;obtain⟨te,t1,t2,t3⟩:=take_drop_enc hr;have hft:=fits_nat n;dsimp only
    by_cases hfn:fitsN n=false
    ·rw[hfn] at hft;rw[if_pos hfn];(simp(disch:=first|decide|omega|(intros;exact Eq.trans rfl rfl)|simp only[puri]) only[a101,ho,hrd,rdV,hft,nextV,go_sem,seval,dis])
     try rfl
    ·have hfn:fitsN n=true:=by simpa using hfn
     rw[hfn] at hft;have hn:1<=n∧n<=65536:=by simpa[fitsN] using hfn
     have e1:((a+k:Nat):Int)+4=((a+k+4:Nat):Int):=rfl;have e3:((a+k+4:Nat):Int)+((n:Nat):Int)=((a+k+4+n:Nat):Int):=rfl;have e4:IntKind.i64.wrap (((a+k+4:Nat):Int)-4)=((a+k:Nat):Int):=by rw[wrap_i (by omega)];omega
     rw[if_neg (by rw[hfn];decide)]
     by_cases hsh:s.length<a+k+4+n
     ·rw[if_pos hsh];(simp(disch:=first|decide|omega|(intros;exact Eq.trans rfl rfl)|simp only[puri]) only[a101,ho,hrd,rdV,hft,nextV,e1,go_sem,seval,dis])
      try rfl
     ·rw[if_neg hsh];have hcs:=crc2_spec (enc128 n) ((s.take (a+k+4+n)).drop (a+k+4)) (by have:(enc128 n).length<=9:=nd_le9 (n:=n) (by omega);omega) (by simp;omega)
      have h4:=four_spec (crcOn 0#32 (enc128 n++(s.take (a+k+4+n)).drop (a+k+4)));by_cases hq:four (crcOn 0#32 (enc128 n++(s.take (a+k+4+n)).drop (a+k+4)))=(s.take (a+k+4)).drop (a+k)
      ·have hb:(four (crcOn 0#32 (enc128 n++(s.take (a+k+4+n)).drop (a+k+4))) == (s.take (a+k+4)).drop (a+k))=true:=by rw[beq_iff_eq];exact hq
       rw[if_pos hq];(simp(disch:=first|decide|omega|(intros;exact Eq.trans rfl rfl)|simp only[puri]) only[a101,ho,hrd,rdV,hft,nextV,e1,e3,e4,te,hcs,h4,hb,go_sem,seval,dis])
      ·have hb:(four (crcOn 0#32 (enc128 n++(s.take (a+k+4+n)).drop (a+k+4))) == (s.take (a+k+4)).drop (a+k))=false:=by rw[beq_eq_false_iff_ne];exact hq
       rw[if_neg hq];(simp(disch:=first|decide|omega|(intros;exact Eq.trans rfl rfl)|simp only[puri]) only[a101,ho,hrd,rdV,hft,nextV,e1,e3,e4,te,hcs,h4,hb,go_sem,seval,dis])
       try rfl
 ·rw[if_pos (.inl hal)];(simp(disch:=first|decide|omega|(intros;exact Eq.trans rfl rfl)|simp only[puri]) only[a101,nextV,go_sem,seval,dis])
  try rfl
set_option maxRecDepth 8000 in
theorem refNext_spec (s:List UInt8) (a:Nat) (ha:a<9223372036854775808) (hs:s.length<=4611686018427387904):call 62 [vs s,vi a] []=some (nextV (nextF s a),[]):=by
 apply enterS s62 rfl;unfold nextF;rcases Nat.lt_or_ge a s.length with hal|hal
 ·have ho:=ends_spec s a (by omega) (by omega)
  cases hop:openF (s.drop a) with
  | true =>
   rw[hop] at ho;rw[if_pos (.inr rfl)];(simp(disch:=first|decide|omega|(intros;exact Eq.trans rfl rfl)|simp only[puri]) only[a62,ho,nextV,go_sem,seval,dis])
   try rfl
  | false =>
   rw[hop] at ho;rw[if_neg (by simp;omega)]
   have hrd:=refRead_spec s a ha (by omega)
   cases hr:rdF (s.drop a) 0 0 with
   | none =>
    rw[hr] at hrd;(simp(disch:=first|decide|omega|(intros;exact Eq.trans rfl rfl)|simp only[puri]) only[a62,ho,hrd,rdV,nextV,go_sem,seval,dis])
    try rfl
   | some q =>
    obtain⟨n,k⟩:=q;rw[hr] at hrd;obtain⟨te,t1,t2,t3⟩:=take_drop_enc hr;dsimp only
    by_cases hfn:fitsN n=false
    ·rw[if_pos hfn];have hn':n<1∨65536<n:=by
      simp only[fitsN,Bool.and_eq_false_iff,decide_eq_false_iff_not] at hfn;omega
     by_cases h0:n<1
     ·(simp(disch:=first|decide|omega|(intros;exact Eq.trans rfl rfl)|simp only[puri]) only[a62,ho,hrd,rdV,nextV,go_sem,seval,dis])
      try rfl
     ·(simp(disch:=first|decide|omega|(intros;exact Eq.trans rfl rfl)|simp only[puri]) only[a62,ho,hrd,rdV,nextV,go_sem,seval,dis])
      try rfl
    ·have hfn:fitsN n=true:=by simpa using hfn
     have hn:1<=n∧n<=65536:=by simpa[fitsN] using hfn
     have e1:((a+k:Nat):Int)+4=((a+k+4:Nat):Int):=rfl;have e3:((a+k+4:Nat):Int)+((n:Nat):Int)=((a+k+4+n:Nat):Int):=rfl;have e4:IntKind.i64.wrap (((a+k+4:Nat):Int)-4)=((a+k:Nat):Int):=by rw[wrap_i (by omega)];omega
     rw[if_neg (by rw[hfn];decide)]
     by_cases hsh:s.length<a+k+4+n
     ·rw[if_pos hsh];(simp(disch:=first|decide|omega|(intros;exact Eq.trans rfl rfl)|simp only[puri]) only[a62,ho,hrd,rdV,nextV,e1,go_sem,seval,dis])
      try rfl
     ·rw[if_neg hsh];have htl:((s.take (a+k+4+n)).drop (a+k+4)).length=n:=by simp;omega
      have hpf:=refPutFrame_spec ((s.take (a+k+4+n)).drop (a+k+4)) (by omega)
      unfold putV at hpf;rw[htl,if_pos hn] at hpf;have hsp:(s.take (a+k+4+n)).drop a=enc128 n++(s.take (a+k+4)).drop (a+k)++(s.take (a+k+4+n)).drop (a+k+4):=by
       rw[<- te];have s1:∀ (l:List UInt8) (i j m:Nat),i<=j->j<=m->(l.take m).drop i=(l.take j).drop i++(l.take m).drop j:=by
        intro l i j m hij hjm;have e:l.take m=l.take j++(l.take m).drop j:=by
         conv=>lhs;rw[<- List.take_append_drop j (l.take m),List.take_take,Nat.min_eq_left hjm]
        rcases Nat.lt_or_ge l.length j with hlj|hlj
        ·have:(l.take m).drop j=[]:=List.drop_eq_nil_of_le (by simp;omega)
         rw[this,List.append_nil,List.take_of_length_le (by omega),List.take_of_length_le (by omega)]
        ·conv=>lhs;rw[e]
         rw[List.drop_append_of_le_length (by simp;omega)]
       rw[s1 s a (a+k) (a+k+4+n) (by omega) (by omega),s1 s (a+k) (a+k+4) (a+k+4+n) (by omega) (by omega),List.append_assoc]
      have hto:((a+k+4+n:Nat):Int).toNat=a+k+4+n:=rfl;have e5:4+((n:Nat):Int)=((4+n:Nat):Int):=rfl;have hff:frameF ((s.take (a+k+4+n)).drop (a+k+4))=enc128 n++four (crcOn 0#32 (enc128 n++(s.take (a+k+4+n)).drop (a+k+4)))++(s.take (a+k+4+n)).drop (a+k+4):=by
       unfold frameF;rw[htl]
      by_cases hq:four (crcOn 0#32 (enc128 n++(s.take (a+k+4+n)).drop (a+k+4)))=(s.take (a+k+4)).drop (a+k)
      ·have hb:(frameF ((s.take (a+k+4+n)).drop (a+k+4)) == (s.take (a+k+4+n)).drop a)=true:=by rw[beq_iff_eq,hff,hsp,hq]
       rw[if_pos hq];(simp(disch:=first|decide|omega|(intros;exact Eq.trans rfl rfl)|simp only[puri]) only[a62,ho,hrd,rdV,nextV,e1,e3,e5,hpf,hb,go_sem,seval,dis])
      ·have hb:(frameF ((s.take (a+k+4+n)).drop (a+k+4)) == (s.take (a+k+4+n)).drop a)=false:=by
        rw[beq_eq_false_iff_ne,hff,hsp];intro he;exact hq (List.append_cancel_left (List.append_cancel_right he))
       rw[if_neg hq];(simp(disch:=first|decide|omega|(intros;exact Eq.trans rfl rfl)|simp only[puri]) only[a62,ho,hrd,rdV,nextV,e1,e3,e5,hpf,hb,go_sem,seval,dis])
       try rfl
 ·rw[if_pos (.inl hal)];(simp(disch:=first|decide|omega|(intros;exact Eq.trans rfl rfl)|simp only[puri]) only[a62,nextV,go_sem,seval,dis])
  try rfl
structure Rec where
 at_:Int
 ti:Int
 da:List UInt8
 deriving DecidableEq
def Rec.enc (e:Rec):List D:=[.i .i64 e.at_,.i .i64 e.ti,.s e.da]
theorem Rec.len (e:Rec):e.enc.length=3:=Eq.trans rfl rfl
theorem Rec.tk (e:Rec):e.enc.take 3=e.enc:=Eq.trans rfl rfl
theorem Rec.tkL (e:Rec):(e.enc.map L.d).take 3=e.enc.map L.d:=Eq.trans rfl rfl
theorem Rec.dat (e:Rec):dataLs (e.enc.map L.d)=some (e.enc.map L.d):=Eq.trans rfl rfl
theorem Rec.rfs (e:Rec):(e.enc.map L.d).flatMap L.refs=[]:=Eq.trans rfl rfl
theorem Rec.rn (e:Rec) (g:Nat->Option Nat):(e.enc.map L.d).map (L.ren g)=e.enc.map L.d:=Eq.trans rfl rfl
theorem Rec.lenL (e:Rec):(e.enc.map L.d).length=3:=Eq.trans rfl rfl
theorem Rec.at0 (e:Rec):e.enc[0]?=some (.i .i64 e.at_):=Eq.trans rfl rfl
theorem Rec.fd0 (e:Rec):(e.enc.map L.d)[0]?=some (.d (.i .i64 e.at_)):=Eq.trans rfl rfl
theorem Rec.at1 (e:Rec):(e.enc.drop 1)[0]?=some (.i .i64 e.ti):=Eq.trans rfl rfl
theorem Rec.fd1 (e:Rec):(e.enc.map L.d)[1]?=some (.d (.i .i64 e.ti)):=Eq.trans rfl rfl
theorem Rec.at2 (e:Rec):(e.enc.drop 2)[0]?=some (.s e.da):=Eq.trans rfl rfl
theorem Rec.fd2 (e:Rec):(e.enc.map L.d)[2]?=some (.d (.s e.da)):=Eq.trans rfl rfl
theorem Rec.up1 (e:Rec) (x:Int):e.enc.take 1++[.i .i64 x]++e.enc.drop 2=({ e with ti:=x }:Rec).enc:=Eq.trans rfl rfl
theorem Rec.up2 (e:Rec) (x:List UInt8):e.enc.take 2++[.s x]++e.enc.drop 3=({ e with da:=x }:Rec).enc:=Eq.trans rfl rfl
def Rec.ok (e:Rec):Prop:=(-9223372036854775808<=e.at_∧e.at_<9223372036854775808)∧(-9223372036854775808<=e.ti∧e.ti<9223372036854775808)∧e.da.length<=9223372036854775807
def Rec.ty:List Ty:=[.i .i64,.i .i64,.s]
theorem Rec.eqs (a b:Rec):scEqs [0,0,2] (a.enc.map L.d) (b.enc.map L.d)=some (decide (a=b)):=by
 cases a;cases b;simp only[Rec.enc,List.map_cons,List.map_nil,scEqs,scEq,if_true,Rec.mk.injEq];congr 1
 rw[Bool.eq_iff_iff];simp only[Bool.and_eq_true,beq_iff_eq,decide_eq_true_eq,and_true]
theorem Rec.of (r:List D) (h:wfRow Rec.ty r):∃ e:Rec,r=e.enc∧e.ok:=by
 simp only[Rec.ty,wfRow,wfT] at h;obtain⟨_,_,rfl,⟨x0,rfl,h0,g0⟩,⟨_,_,rfl,⟨x1,rfl,h1,g1⟩,⟨_,_,rfl,⟨x2,rfl,h2⟩,rfl⟩⟩⟩:=h;refine⟨⟨x0,x1,x2⟩,rfl,?_⟩;exact⟨⟨Int.le_trans (by decide) h0,Int.lt_of_le_of_lt g0 (by decide)⟩,⟨Int.le_trans (by decide) h1,Int.lt_of_le_of_lt g1 (by decide)⟩,h2⟩
def offN (n:Int):Bool:=decide (0<=n) && decide (n<=1099511627776)
def whyF (r:Rec):Int:=if offN r.at_=true∧offN r.ti=true then(if r.da.length<=64 then 0 else 5) else 6
theorem offN_t {n:Int} (h:offN n=true):0<=n∧n<=1099511627776:=by simpa[offN] using h
theorem far_spec (n:Int) (hn : -9223372036854775808<=n∧n<9223372036854775808):call 153 [vi n] []=some (vb (!offN n),[]):=by
 apply enterS s153 rfl;by_cases c:0<=n
 ·by_cases c2:n<=1099511627776
  ·have e:IntKind.u64.wrap n=n:=wrap_u64 (by omega)
   have eo:offN n=true:=by simp[offN,c,c2]
   (simp(disch:=first|decide|omega|(intros;exact Eq.trans rfl rfl)|simp only[puri]) only[a153,e,eo,go_sem,seval,dis])
  ·have e:IntKind.u64.wrap n=n:=wrap_u64 (by omega)
   have eo:offN n=false:=by simp[offN,c,c2]
   (simp(disch:=first|decide|omega|(intros;exact Eq.trans rfl rfl)|simp only[puri]) only[a153,e,eo,go_sem,seval,dis])
 ·have e:IntKind.u64.wrap n=n+18446744073709551616:=by
   show n % 18446744073709551616=_;omega
  have eo:offN n=false:=by simp[offN,c]
  (simp(disch:=first|decide|omega|(intros;exact Eq.trans rfl rfl)|simp only[puri]) only[a153,e,eo,go_sem,seval,dis])
theorem within_spec (n:Int):call 76 [vi n] []=some (vb (offN n),[]):=by
 apply enterS s76 rfl;by_cases c:0<=n
 ·(simp(disch:=first|decide|omega|(intros;exact Eq.trans rfl rfl)|simp only[puri]) only[a76,offN,c,go_sem,seval,dis])
 ·(simp(disch:=first|decide|omega|(intros;exact Eq.trans rfl rfl)|simp only[puri]) only[a76,offN,c,Bool.false_and,go_sem,seval,dis])
theorem check_spec (r:Rec) (hr:r.ok):call 151 [.agg (r.enc.map .d)] []=some (vi (whyF r),[]):=by
 apply enterS s151 rfl;obtain⟨h1,h2,h3⟩:=hr;have f1:=far_spec r.at_ h1;have f2:=far_spec r.ti h2;unfold whyF;cases c1:offN r.at_ with
 | false =>
  rw[c1] at f1;(simp(disch:=first|decide|omega|(intros;exact Eq.trans rfl rfl)|simp only[puri]) only[a151,Rec.len,Rec.tk,Rec.fd0,Rec.fd1,Rec.fd2,Rec.at0,Rec.at1,Rec.at2,f1,f2,go_sem,seval,dis])
  try simp
 | true =>
  cases c2:offN r.ti with
  | false =>
   rw[c1] at f1;rw[c2] at f2;(simp(disch:=first|decide|omega|(intros;exact Eq.trans rfl rfl)|simp only[puri]) only[a151,Rec.len,Rec.tk,Rec.fd0,Rec.fd1,Rec.fd2,Rec.at0,Rec.at1,Rec.at2,f1,f2,go_sem,seval,dis])
   try simp
  | true =>
   rw[c1] at f1;rw[c2] at f2;by_cases c3:r.da.length<=64
   ·(simp(disch:=first|decide|omega|(intros;exact Eq.trans rfl rfl)|simp only[puri]) only[a151,Rec.len,Rec.tk,Rec.fd0,Rec.fd1,Rec.fd2,Rec.at0,Rec.at1,Rec.at2,f1,f2,go_sem,seval,dis])
    try simp[c3]
   ·(simp(disch:=first|decide|omega|(intros;exact Eq.trans rfl rfl)|simp only[puri]) only[a151,Rec.len,Rec.tk,Rec.fd0,Rec.fd1,Rec.fd2,Rec.at0,Rec.at1,Rec.at2,f1,f2,go_sem,seval,dis])
    try simp[c3]
theorem why_spec (r:Rec) (hr:r.ok):call 80 [.agg (r.enc.map .d)] []=some (vi (whyF r),[]):=by
 apply enterS s80 rfl;obtain⟨h1,h2,h3⟩:=hr;have f1:=within_spec r.at_;have f2:=within_spec r.ti;unfold whyF;cases c1:offN r.at_ with
 | false =>
  rw[c1] at f1;(simp(disch:=first|decide|omega|(intros;exact Eq.trans rfl rfl)|simp only[puri]) only[a80,Rec.len,Rec.tk,Rec.fd0,Rec.fd1,Rec.fd2,Rec.at0,Rec.at1,Rec.at2,f1,f2,go_sem,seval,dis])
  try simp
 | true =>
  cases c2:offN r.ti with
  | false =>
   rw[c1] at f1;rw[c2] at f2;(simp(disch:=first|decide|omega|(intros;exact Eq.trans rfl rfl)|simp only[puri]) only[a80,Rec.len,Rec.tk,Rec.fd0,Rec.fd1,Rec.fd2,Rec.at0,Rec.at1,Rec.at2,f1,f2,go_sem,seval,dis])
   try simp
  | true =>
   rw[c1] at f1;rw[c2] at f2;by_cases c3:r.da.length<=64
   ·(simp(disch:=first|decide|omega|(intros;exact Eq.trans rfl rfl)|simp only[puri]) only[a80,Rec.len,Rec.tk,Rec.fd0,Rec.fd1,Rec.fd2,Rec.at0,Rec.at1,Rec.at2,f1,f2,go_sem,seval,dis])
    try simp[c3]
   ·(simp(disch:=first|decide|omega|(intros;exact Eq.trans rfl rfl)|simp only[puri]) only[a80,Rec.len,Rec.tk,Rec.fd0,Rec.fd1,Rec.fd2,Rec.at0,Rec.at1,Rec.at2,f1,f2,go_sem,seval,dis])
    try simp[c3]
theorem refRight_spec (r:Rec):call 43 [.agg (r.enc.map .d)] []=some (vb (decide (whyF r=0)),[]):=by
 apply enterS s43 rfl;have f1:=within_spec r.at_;have f2:=within_spec r.ti;unfold whyF;cases c1:offN r.at_ with
 | false =>
  rw[c1] at f1;(simp(disch:=first|decide|omega|(intros;exact Eq.trans rfl rfl)|simp only[puri]) only[a43,Rec.len,Rec.tkL,Rec.dat,Rec.lenL,Rec.fd0,Rec.fd1,Rec.fd2,Rec.at0,Rec.at1,Rec.at2,f1,f2,go_sem,seval,dis])
  try simp
 | true =>
  cases c2:offN r.ti with
  | false =>
   rw[c1] at f1;rw[c2] at f2;(simp(disch:=first|decide|omega|(intros;exact Eq.trans rfl rfl)|simp only[puri]) only[a43,Rec.len,Rec.tkL,Rec.dat,Rec.lenL,Rec.fd0,Rec.fd1,Rec.fd2,Rec.at0,Rec.at1,Rec.at2,f1,f2,go_sem,seval,dis])
   try simp
  | true =>
   rw[c1] at f1;rw[c2] at f2;by_cases c3:r.da.length<=64
   ·(simp(disch:=first|decide|omega|(intros;exact Eq.trans rfl rfl)|simp only[puri]) only[a43,Rec.len,Rec.tkL,Rec.dat,Rec.lenL,Rec.fd0,Rec.fd1,Rec.fd2,Rec.at0,Rec.at1,Rec.at2,f1,f2,go_sem,seval,dis])
    try simp[c3]
   ·(simp(disch:=first|decide|omega|(intros;exact Eq.trans rfl rfl)|simp only[puri]) only[a43,Rec.len,Rec.tkL,Rec.dat,Rec.lenL,Rec.fd0,Rec.fd1,Rec.fd2,Rec.at0,Rec.at1,Rec.at2,f1,f2,go_sem,seval,dis])
    try simp[c3]
def bodyF (r:Rec):List UInt8:=enc128 r.at_.toNat++enc128 r.ti.toNat++r.da
structure Fit (r:Rec):Prop where
 a0:0<=r.at_
 a1:r.at_<=1099511627776
 t0:0<=r.ti
 t1:r.ti<=1099511627776
 d:r.da.length<=64
theorem why_fit {r:Rec}:whyF r=0↔Fit r:=by
 unfold whyF;constructor
 ·intro h;split at h
  ·rename_i c;have c1:=offN_t c.1;have c2:=offN_t c.2;split at h
   ·exact⟨c1.1,c1.2,c2.1,c2.2,by assumption⟩
   ·cases h
  ·cases h
 ·intro h;have c1:offN r.at_=true:=by simp[offN,h.a0,h.a1]
  have c2:offN r.ti=true:=by simp[offN,h.t0,h.t1]
  rw[if_pos ⟨c1,c2⟩,if_pos h.d]
theorem nd_le6 {n:Nat} (h:n<=1099511627776):nd n<=6:=by
 have hp:=nd_pos n;rcases Nat.lt_or_ge 6 (nd n) with h6|h6
 ·have:=(nd_range (nd n-1) n).1 (by omega)
  rcases this.2 with h0|h0
  ·omega
  ·have:(128:Nat) ^ 6<=128 ^ (nd n-1):=Nat.pow_le_pow_right (by decide) (by omega)
   have e:(128:Nat) ^ 6=4398046511104:=by decide
   omega
 ·exact h6
theorem body_len (r:Rec):(bodyF r).length=nd r.at_.toNat+nd r.ti.toNat+r.da.length:=by simp[bodyF,nd,Nat.add_assoc]
theorem Fit.blen {r:Rec} (h:Fit r):2<=(bodyF r).length∧(bodyF r).length<=76:=by
 have h1:=nd_le6 (n:=r.at_.toNat) (by have:=h.a0;have:=h.a1;omega)
 have h2:=nd_le6 (n:=r.ti.toNat) (by have:=h.t0;have:=h.t1;omega)
 have h3:=nd_pos r.at_.toNat;have h4:=nd_pos r.ti.toNat;have:=h.d;rw[body_len];omega
def putR (r:Rec):V:=if whyF r=0 then .tup [(false,[.d (.s (frameF (bodyF r)))]),(false,[.d (.i .i64 0)])] else .tup [(false,[.d (.s [])]),(false,[.d (.i .i64 (whyF r))])]
theorem putN {n:Int} (h:0<=n) (h1:n<9223372036854775808):call 124 [vi n] []=some (vs (enc128 n.toNat),[]):=by
 have:=put_spec n.toNat (by omega)
 rwa [show((n.toNat:Nat):Int)=n by omega] at this
theorem refPutN {n:Int} (h:0<=n) (h1:n<9223372036854775808):call 111 [vi n] []=some (vs (enc128 n.toNat),[]):=by
 have:=refPut_spec n.toNat (by omega)
 rwa [show((n.toNat:Nat):Int)=n by omega] at this
theorem refBody_spec (r:Rec) (hr:r.ok) (hf:Fit r):call 82 [.agg (r.enc.map .d)] []=some (vs (bodyF r),[]):=by
 apply enterS s82 rfl;have p1:=refPutN hf.a0 hr.1.2;have p2:=refPutN hf.t0 hr.2.1.2;have l1:(enc128 r.at_.toNat).length<=9:=nd_le9 (n:=r.at_.toNat) (by have:=hr.1.2;omega)
 have l2:(enc128 r.ti.toNat).length<=9:=nd_le9 (n:=r.ti.toNat) (by have:=hr.2.1.2;omega)
 have l3:=hf.d;(simp(disch:=first|decide|omega|(intros;exact Eq.trans rfl rfl)|simp only[puri]) only[a82,Rec.len,Rec.tkL,Rec.dat,Rec.lenL,Rec.fd0,Rec.fd1,Rec.fd2,Rec.at0,Rec.at1,Rec.at2,p1,p2,bodyF,go_sem,seval,dis])
theorem refPutRec_spec (r:Rec) (hr:r.ok):call 45 [.agg (r.enc.map .d)] []=some (putR r,[]):=by
 apply enterS s45 rfl;have h:=why_spec r hr;unfold putR;by_cases c:whyF r=0
 ·have hf:=why_fit.1 c;have hb:=hf.blen;have p:=refPutFrame_spec (bodyF r) (by omega)
  unfold putV at p;rw[if_pos (by omega)] at p
  rw[c] at h;have p1:=refBody_spec r hr hf;rw[if_pos c];(simp(disch:=first|decide|omega|(intros;exact Eq.trans rfl rfl)|simp only[puri]) only[a45,Rec.len,Rec.tkL,Rec.dat,Rec.lenL,Rec.fd0,Rec.fd1,Rec.fd2,Rec.at0,Rec.at1,Rec.at2,h,p1,p,go_sem,seval,dis])
 ·rw[if_neg c];(simp(disch:=first|decide|omega|(intros;exact Eq.trans rfl rfl)|simp only[puri]) only[a45,Rec.len,Rec.tkL,Rec.dat,Rec.lenL,Rec.fd0,Rec.fd1,Rec.fd2,Rec.at0,Rec.at1,Rec.at2,h,go_sem,seval,dis])
theorem get1_spec (s:List UInt8) (a:Nat) (g:Bool) (ha:a<9223372036854775808) (hs:s.length<=9223372036854775807) :
  call 150 [.one (.p 0 0),.one (.p 1 0),.one (.p 2 0)] [.cells [.d (.s s)],.cells [.d (.i .i64 a)],.cells [.d (.b g)]] =
   some (match rdF (s.drop a) 0 0 with|some (n,k)=>(vi n,[.cells [.d (.s s)],.cells [.d (.i .i64 ((a+k:Nat):Int))],.cells [.d (.b g)]])|none=>(vi 0,[.cells [.d (.s s)],.cells [.d (.i .i64 0)],.cells [.d (.b false)]])):=by
 apply enterS s150 rfl;have hr:=read_spec s a ha hs;cases h:rdF (s.drop a) 0 0 with
 | none =>
  rw[h] at hr;cases g
  ·(simp(disch:=first|decide|omega|(intros;exact Eq.trans rfl rfl)|simp only[puri]) only[a150,hr,rdV,go_sem,seval,dis])
   try rfl
  ·(simp(disch:=first|decide|omega|(intros;exact Eq.trans rfl rfl)|simp only[puri]) only[a150,hr,rdV,go_sem,seval,dis])
   try rfl
 | some q =>
  obtain⟨n,k⟩:=q;rw[h] at hr;cases g
  ·(simp(disch:=first|decide|omega|(intros;exact Eq.trans rfl rfl)|simp only[puri]) only[a150,hr,rdV,go_sem,seval,dis])
   try rfl
  ·(simp(disch:=first|decide|omega|(intros;exact Eq.trans rfl rfl)|simp only[puri]) only[a150,hr,rdV,go_sem,seval,dis])
   try rfl
def getR (s:List UInt8):Rec × Int:=match rdF s 0 0 with
 | none=>(⟨0,0,[]⟩,3)
 | some (n,k)=>match rdF (s.drop k) 0 0 with
  | none=>(⟨0,0,[]⟩,3)
  | some (m,j)=>if whyF ⟨n,m,s.drop (k+j)⟩=0 then(⟨n,m,s.drop (k+j)⟩,0) else(⟨0,0,[]⟩,whyF ⟨n,m,s.drop (k+j)⟩)
def recV (r:Rec × Int):V:=.tup [(true,r.1.enc.map .d),(false,[.d (.i .i64 r.2)])]
theorem callIso_at {φ:Phi} {f:FuncId} {args args':List V} {H H' H1 H2:Hp} {ids:List Nat} {r r':V} (hi:idsOf H (args.flatMap V.refs)=ids) (ha:args.map (V.ren (place ids))=args') (hH:canonH H ids=H')
  (hr:φ f args' H'=some (r,H1)) (he:(r.ren (fun j=>if j<ids.length then ids[j]? else some (H.length+(j-ids.length))),setAll H ids ((H1.take ids.length).map (Box.ren (fun j=>if j<ids.length then ids[j]? else some (H.length+(j-ids.length)))))++(H1.drop ids.length).map (Box.ren (fun j=>if j<ids.length then ids[j]? else some (H.length+(j-ids.length)))))=(r',H2)) :
  callIso φ f args H=some (r',H2):=by
 subst hi;subst ha;subst hH;simp only[callIso,hr];rw[he]
theorem rd_lt {l:List UInt8} {n k:Nat} (h:rdF l 0 0=some (n,k)):n<9223372036854775808:=by
 obtain⟨h1,h2,h3,h4⟩:=rdF_enc0 h;have e:nd n=k:=by unfold nd;rw[<- h4,List.length_take];omega
 obtain⟨m,hm⟩:∃ m,nd n=m+1:=⟨nd n-1,by have:=nd_pos n;omega⟩
 have:=((nd_range m n).1 hm).1;have h9:(128:Nat) ^ (m+1)<=128 ^ 9:=Nat.pow_le_pow_right (by decide) (by omega)
 have e9:(128:Nat) ^ 9=9223372036854775808:=by decide
 omega
set_option maxRecDepth 8000 in
theorem get_spec (s:List UInt8) (hs:s.length<=1000000):call 145 [vs s] []=some (recV (getR s),[]):=by
 apply enterS s145 rfl;have g1:=get1_spec s 0 true (by decide) (by omega)
 unfold getR recV;cases h:rdF s 0 0 with
 | none =>
  rw[List.drop_zero,h] at g1;have c1:callIso call 150 [.one (.p 0 0),.one (.p 2 0),.one (.p 3 0)] [.cells [.d (.s s)],.cells [.d (.i .i64 0),.d (.i .i64 0),.d (.s [])],.cells [.d (.i .i64 0)],.cells [.d (.b true)]]=some (vi 0,[.cells [.d (.s s)],.cells [.d (.i .i64 0),.d (.i .i64 0),.d (.s [])],.cells [.d (.i .i64 0)],.cells [.d (.b false)]]) :=
   callIso_at rfl rfl rfl g1 rfl
  (simp(disch:=first|decide|omega|(intros;exact Eq.trans rfl rfl)|simp only[puri]) only[a145,c1,List.mapM_cons,List.mapM_nil,Option.pure_def,Option.bind_eq_bind,Option.bind_some,List.map_cons,List.map_nil,List.cons_append,List.nil_append,go_sem,seval,dis])
  try rfl
 | some q =>
  obtain⟨n,k⟩:=q;rw[List.drop_zero,h] at g1;obtain⟨b1,b2,b3,b4⟩:=rdF_enc0 h;have hn:=rd_lt h;simp only[Nat.zero_add] at g1;have c1:callIso call 150 [.one (.p 0 0),.one (.p 2 0),.one (.p 3 0)] [.cells [.d (.s s)],.cells [.d (.i .i64 0),.d (.i .i64 0),.d (.s [])],.cells [.d (.i .i64 0)],.cells [.d (.b true)]]=some (vi n,[.cells [.d (.s s)],.cells [.d (.i .i64 0),.d (.i .i64 0),.d (.s [])],.cells [.d (.i .i64 k)],.cells [.d (.b true)]]) :=
   callIso_at rfl rfl rfl g1 rfl
  have g2:=get1_spec s k true (by omega) (by omega)
  dsimp only
  cases h2:rdF (s.drop k) 0 0 with
  | none =>
   rw[h2] at g2;have c2:callIso call 150 [.one (.p 0 0),.one (.p 2 0),.one (.p 3 0)] [.cells [.d (.s s)],.cells [.d (.i .i64 0),.d (.i .i64 0),.d (.s [])],.cells [.d (.i .i64 k)],.cells [.d (.b true)],.cells [.d (.i .i64 n),.d (.i .i64 0),.d (.s [])]]=some (vi 0,[.cells [.d (.s s)],.cells [.d (.i .i64 0),.d (.i .i64 0),.d (.s [])],.cells [.d (.i .i64 0)],.cells [.d (.b false)],.cells [.d (.i .i64 n),.d (.i .i64 0),.d (.s [])]]) :=
    callIso_at rfl rfl rfl g2 rfl
   (simp(disch:=first|decide|omega|(intros;exact Eq.trans rfl rfl)|simp only[puri]) only[a145,c1,c2,List.mapM_cons,List.mapM_nil,Option.pure_def,Option.bind_eq_bind,Option.bind_some,List.map_cons,List.map_nil,List.cons_append,List.nil_append,go_sem,seval,dis])
   try rfl
  | some q2 =>
   obtain⟨m,j⟩:=q2;rw[h2] at g2;obtain⟨d1,d2,d3,d4⟩:=rdF_enc0 h2;have hm:=rd_lt h2;have d2':k+j<=s.length:=by rw[List.length_drop] at d2;omega
   have c2:callIso call 150 [.one (.p 0 0),.one (.p 2 0),.one (.p 3 0)] [.cells [.d (.s s)],.cells [.d (.i .i64 0),.d (.i .i64 0),.d (.s [])],.cells [.d (.i .i64 k)],.cells [.d (.b true)],.cells [.d (.i .i64 n),.d (.i .i64 0),.d (.s [])]]=some (vi m,[.cells [.d (.s s)],.cells [.d (.i .i64 0),.d (.i .i64 0),.d (.s [])],.cells [.d (.i .i64 ((k+j:Nat):Int))],.cells [.d (.b true)],.cells [.d (.i .i64 n),.d (.i .i64 0),.d (.s [])]]) :=
    callIso_at rfl rfl rfl g2 rfl
   have ck:call 151 [.agg [.d (.i .i64 n),.d (.i .i64 m),.d (.s (s.drop (k+j)))]] []=some (vi (whyF ⟨n,m,s.drop (k+j)⟩),[]):=check_spec ⟨n,m,s.drop (k+j)⟩ ⟨⟨by simp only[];omega,by simp only[];omega⟩,⟨by simp only[];omega,by simp only[];omega⟩,by simp;omega⟩
   dsimp only
   by_cases c:whyF ⟨n,m,s.drop (k+j)⟩=0
   ·rw[c] at ck;rw[if_pos c];(simp(disch:=first|decide|omega|(intros;exact Eq.trans rfl rfl)|simp only[puri]) only[a145,c1,c2,ck,List.mapM_cons,List.mapM_nil,Option.pure_def,Option.bind_eq_bind,Option.bind_some,List.map_cons,List.map_nil,List.cons_append,List.nil_append,go_sem,seval,dis])
    try rfl
   ·rw[if_neg c];(simp(disch:=first|decide|omega|(intros;exact Eq.trans rfl rfl)|simp only[puri]) only[a145,c1,c2,ck,c,List.mapM_cons,List.mapM_nil,Option.pure_def,Option.bind_eq_bind,Option.bind_some,List.map_cons,List.map_nil,List.cons_append,List.nil_append,go_sem,seval,dis])
    try rfl
set_option maxRecDepth 8000 in
theorem refGet_spec (s:List UInt8) (hs:s.length<=1000000):call 138 [vs s] []=some (recV (getR s),[]):=by
 apply enterS s138 rfl;have g1:=refRead_spec s 0 (by decide) (by omega)
 simp only[List.drop_zero,Int.natCast_zero] at g1;unfold getR recV;cases h:rdF s 0 0 with
 | none =>
  rw[h] at g1;(simp(disch:=first|decide|omega|(intros;exact Eq.trans rfl rfl)|simp only[puri]) only[a138,g1,rdV,go_sem,seval,dis])
  try rfl
 | some q =>
  obtain⟨n,k⟩:=q;rw[h] at g1;simp only[rdV,Nat.zero_add] at g1;obtain⟨b1,b2,b3,b4⟩:=rdF_enc0 h;have hn:=rd_lt h;have g2:=refRead_spec s k (by omega) (by omega)
  dsimp only
  cases h2:rdF (s.drop k) 0 0 with
  | none =>
   rw[h2] at g2;simp only[rdV] at g2;(simp(disch:=first|decide|omega|(intros;exact Eq.trans rfl rfl)|simp only[puri]) only[a138,g1,g2,go_sem,seval,dis])
   try rfl
  | some q2 =>
   obtain⟨m,j⟩:=q2;rw[h2] at g2;simp only[rdV] at g2;obtain⟨d1,d2,d3,d4⟩:=rdF_enc0 h2;have hm:=rd_lt h2;have d2':k+j<=s.length:=by rw[List.length_drop] at d2;omega
   have ck:call 80 [.agg [.d (.i .i64 n),.d (.i .i64 m),.d (.s (s.drop (k+j)))]] []=some (vi (whyF ⟨n,m,s.drop (k+j)⟩),[]):=why_spec ⟨n,m,s.drop (k+j)⟩ ⟨⟨by simp only[];omega,by simp only[];omega⟩,⟨by simp only[];omega,by simp only[];omega⟩,by simp;omega⟩
   dsimp only
   by_cases c:whyF ⟨n,m,s.drop (k+j)⟩=0
   ·rw[c] at ck;rw[if_pos c];(simp(disch:=first|decide|omega|(intros;exact Eq.trans rfl rfl)|simp only[puri]) only[a138,g1,g2,ck,go_sem,seval,dis])
    try rfl
   ·rw[if_neg c];(simp(disch:=first|decide|omega|(intros;exact Eq.trans rfl rfl)|simp only[puri]) only[a138,g1,g2,ck,c,go_sem,seval,dis])
    try rfl
def frameR (r:Rec):List UInt8:=frameF (bodyF r)
def rowS (l:List Rec):List UInt8:=l.flatMap frameR
theorem rowS_succ (l:List Rec) (i:Nat) (h:i<l.length):rowS (l.take (i+1))=rowS (l.take i)++frameR l[i]:=by
 unfold rowS;rw[take_succ_get l i h,List.flatMap_append];simp
theorem nextF_tlen (s:List UInt8) (a:Nat):(nextF s a).1.length<=s.length:=by
 unfold nextF;repeat' split
 all_goals (try simp)
 all_goals omega
theorem getR_body {r:Rec} (h:Fit r):getR (bodyF r)=(r,0):=by
 have h0:=h.a0;have h1:=h.a1;have h2:=h.t0;have h3:=h.t1;have ea:((r.at_.toNat:Nat):Int)=r.at_:=by omega
 have et:((r.ti.toNat:Nat):Int)=r.ti:=by omega
 have r1:rdF (bodyF r) 0 0=some (r.at_.toNat,nd r.at_.toNat):=by
  unfold bodyF;rw[List.append_assoc];exact rdF_of0 _ _ (by omega)
 have d1:(bodyF r).drop (nd r.at_.toNat)=enc128 r.ti.toNat++r.da:=by
  unfold bodyF nd;rw[List.append_assoc,List.drop_left]
 have r2:rdF (enc128 r.ti.toNat++r.da) 0 0=some (r.ti.toNat,nd r.ti.toNat):=rdF_of0 _ _ (by omega)
 have d2:(bodyF r).drop (nd r.at_.toNat+nd r.ti.toNat)=r.da:=by
  rw[<- List.drop_drop,d1];unfold nd;rw[List.drop_left]
 have er:(⟨((r.at_.toNat:Nat):Int),((r.ti.toNat:Nat):Int),r.da⟩:Rec)=r:=by rw[ea,et]
 unfold getR;rw[r1];simp only[];rw[d1,r2];simp only[];rw[d2,er,if_pos (why_fit.2 h)]
def placesF:Nat->List UInt8->Nat->Int->List (Rec × Nat) × Nat × Int
 | 0,_,a,_=>([],a,0)
 | f+1,s,a,b=>if s.length<=a then([],a,0) else
  match nextF s a with
  | (t,n,e)=>if e=0 then(if(getR t).2=0 then(if(getR t).1.at_=b then(((getR t).1,a)::(placesF f s n (b+1)).1,(placesF f s n (b+1)).2) else([],a,3)) else([],a,(getR t).2)) else([],a,e)
theorem placesF_step {s t:List UInt8} {a n f:Nat} {b:Int} (ha:a<s.length) (h:nextF s a=(t,n,0)) (hg:(getR t).2=0) (hb:(getR t).1.at_=b):placesF (f+1) s a b=(((getR t).1,a)::(placesF f s n (b+1)).1,(placesF f s n (b+1)).2):=by
 simp only[placesF];rw[if_neg (by omega),h];simp only[];rw[if_pos trivial,if_pos hg,if_pos hb]
theorem placesF_off {s t:List UInt8} {a n f:Nat} {b:Int} (ha:a<s.length) (h:nextF s a=(t,n,0)) (hg:(getR t).2=0) (hb:(getR t).1.at_≠b):placesF (f+1) s a b=([],a,3):=by
 simp only[placesF];rw[if_neg (by omega),h];simp only[];rw[if_pos trivial,if_pos hg,if_neg hb]
theorem placesF_bad {s t:List UInt8} {a n f:Nat} {b:Int} (ha:a<s.length) (h:nextF s a=(t,n,0)) (hg:(getR t).2≠0):placesF (f+1) s a b=([],a,(getR t).2):=by
 simp only[placesF];rw[if_neg (by omega),h];simp only[];rw[if_pos trivial,if_neg hg]
theorem placesF_stop {s t:List UInt8} {a n f:Nat} {e b:Int} (ha:a<s.length) (h:nextF s a=(t,n,e)) (he:e≠0):placesF (f+1) s a b=([],a,e):=by
 simp only[placesF];rw[if_neg (by omega),h];simp only[];rw[if_neg he]
theorem placesF_end {s:List UInt8} {a f:Nat} {b:Int} (ha:s.length<=a):placesF f s a b=([],a,0):=by
 cases f with
 | zero=>rfl
 | succ f=>simp only[placesF];rw[if_pos ha]
theorem placesF_fuel {s:List UInt8}:∀ (g g' b:Nat) (o:Int),b<=s.length->s.length<b+g->s.length<b+g'->placesF g s b o=placesF g' s b o:=by
 intro g;induction g with
 | zero=>intro g' b o hb h1 h2;omega
 | succ g ih =>
  intro g' b o hb h1 h2;obtain⟨g2,rfl⟩:∃ g2,g'=g2+1:=⟨g'-1,by omega⟩
  rcases Nat.lt_or_ge b s.length with hbl|hbl
  ·obtain⟨⟨t',n',e'⟩,hx'⟩:∃ x,nextF s b=x:=⟨_,rfl⟩;by_cases he':e'=0
   ·subst he';have hok':=nextF_ok hx';by_cases hg:(getR t').2=0
    ·by_cases ho:(getR t').1.at_=o
     ·rw[placesF_step hbl hx' hg ho,placesF_step hbl hx' hg ho,ih g2 n' _ hok'.2 (by omega) (by omega)]
     ·rw[placesF_off hbl hx' hg ho,placesF_off hbl hx' hg ho]
    ·rw[placesF_bad hbl hx' hg,placesF_bad hbl hx' hg]
   ·rw[placesF_stop hbl hx' he',placesF_stop hbl hx' he']
  ·rw[placesF_end hbl,placesF_end hbl]
set_option maxRecDepth 8000 in
theorem good_spec (n:Int) (hn : -9223372036854775808<=n∧n<9223372036854775808):call 136 [vi n] []=some (vb (offN n),[]):=by
 apply enterS s136 rfl;unfold offN;by_cases c:0<=n
 ·have e:IntKind.u64.wrap n=n:=wrap_u64 ⟨c,by omega⟩
  by_cases c2:n<=1099511627776
  ·(simp(disch:=first|decide|omega|(intros;exact Eq.trans rfl rfl)|simp only[puri]) only[a136,e,c,c2,go_sem,seval,dis])
  ·(simp(disch:=first|decide|omega|(intros;exact Eq.trans rfl rfl)|simp only[puri]) only[a136,e,c,c2,go_sem,seval,dis])
 ·have e:IntKind.u64.wrap n=n+18446744073709551616:=by
   simp[IntKind.wrap,IntKind.bits,IntKind.signed];omega
  (simp(disch:=first|decide|omega|(intros;exact Eq.trans rfl rfl)|simp only[puri]) only[a136,e,c,Bool.false_and,go_sem,seval,dis])
theorem records_spec (xs:List L):call 137 [.one (.p 0 0)] [.cells xs]=some (.one (.f 144 [1]),[.cells xs,.cells [.p 0 0]]):=by
 apply enterS s137 rfl;(simp(disch:=first|decide|omega|(intros;exact Eq.trans rfl rfl)|simp only[puri]) only[a137,List.mapM_cons,List.mapM_nil,Option.pure_def,Option.bind_eq_bind,Option.bind_some,go_sem,seval,dis])
 simp[trim,V.refs,L.refs]
def scanV (r:List (Rec × Nat) × Nat × Int):V:=.tup [(false,[.d (.l (r.1.map fun x=>x.1.enc))]),(false,[.d (.i .i64 ((r.2.1:Nat):Int))]),(false,[.d (.i .i64 r.2.2)])]
def scanS (s:List UInt8) (b:Int):List (Rec × Nat) × Nat × Int:=if offN b=true then placesF (s.length+1) s 0 b else([],0,1)
def outL (l:List (Rec × Nat)):L:=match l with|[]=>.ns|_=>.sl 4 3 0 l.length
def outB (l:List (Rec × Nat)):Hp:=match l with|[]=>[]|_=>[.arr 3 (l.map fun x=>x.1.enc) 0]
set_option maxRecDepth 8000 in
theorem scan_spec (s:List UInt8) (hs:s.length<=1000000) (b:Int) (hb : -9223372036854775808<=b∧b<9223372036854775808):call 107 [vs s,vi b] []=some (scanV (scanS s b),[]):=by
 apply enterM s107 rfl;have hg:=good_spec b hb;unfold scanS scanV;cases h:offN b with
 | false =>
  rw[h] at hg;(simp(disch:=first|decide|omega|(intros;exact Eq.trans rfl rfl)|simp only[puri]) only[a107,hg,go_sem,seval,dis,vdr,A.kind,A.xs,optX,A.isN,visM])
  try simp
 | true =>
  rw[h] at hg;have c1:callIso call 137 [.one (.p 0 0)] [.cells [.d (.s s),.d (.i .i64 0),.d (.i .i64 b),.d (.i .i64 0)],.cells [.ns]]=some (.one (.f 144 [2]),[.cells [.d (.s s),.d (.i .i64 0),.d (.i .i64 b),.d (.i .i64 0)],.cells [.ns],.cells [.p 0 0]]) :=
   iso_at rfl rfl rfl (records_spec _) rfl
  (simp(disch:=first|decide|omega|(intros;exact Eq.trans rfl rfl)|simp only[puri]) only[a107,hg,c1,go_sem,seval,dis,vdr,A.kind,A.xs,optX,A.isN,visM])
  rw[M_rngS (gf:=144) (caps:=[2]) (af:=a144) (by rfl) s144 rfl]
  generalize hψ:roundRunU call _ _ _ _=ψ;(simp(disch:=first|decide|omega|(intros;exact Eq.trans rfl rfl)|simp only[puri]) only[a144,go_sem,seval,dis,vdr,A.kind,A.xs,optX,A.isN,visY,↓ops_consY,↓ops_conszY])
  have hr:=fun(v:V) (H:Hp)=>(congrFun (congrFun hψ.symm [v]) H).trans (round_e _ _ _ _ _ [v] H rfl)
  clear hψ;have hb2:0<=b∧b<=1099511627776:=by simpa[offN] using h
  refine loop_boxY (N:=82) (m:=4) (σ:=Nat × Int × List (Rec × Nat)) (fun t=>s.length-t.1) (fun t=>t.1<=s.length∧t.2.2.length<=t.1∧t.2.1=b+t.2.2.length) (fun t=>[V.one (.y 3 0),V.one (.p 2 0)])
   (fun t=>[.cells [.d (.s s),.d (.i .i64 t.1),.d (.i .i64 t.2.1),.d (.i .i64 0)],.cells [outL t.2.2],.cells [.p 0 0],.dead]++outB t.2.2)
   (fun t=>(scanV (t.2.2++(placesF (s.length+1-t.1) s t.1 t.2.1).1,(placesF (s.length+1-t.1) s t.1 t.2.1).2),([]:Hp))) ?_ (0,b,[]) ⟨Nat.zero_le _,by simp,by simp⟩ _ _ hdM
  rintro⟨a,nx,out⟩ ⟨ha,hout,hnx⟩ R hR;simp only at ha hout hnx;rcases Nat.lt_or_ge a s.length with h|h
  ·obtain⟨f,hf⟩:∃ f,s.length+1-a=f+1:=⟨s.length-a,by omega⟩
   have hn:=next_spec s a (by omega) (by omega)
   have htl:=nextF_tlen s a;obtain⟨⟨t,n,e⟩,hx⟩:∃ x,nextF s a=x:=⟨_,rfl⟩;rw[hx] at hn htl;by_cases he:e=0
   ·subst he;have hok:=nextF_ok hx;have hg:=get_spec t (by simp only[] at htl;omega)
    have hst := @placesF_step s t a n f nx h hx;have hof := @placesF_off s t a n f nx h hx;have hbd := @placesF_bad s t a n f nx h hx;obtain⟨⟨r,g⟩,hq⟩:∃ x,getR t=x:=⟨_,rfl⟩;rw[hq] at hg hst hof hbd;simp only[recV] at hg hst hbd hof;by_cases hz:g=0
    ·subst hz;by_cases ho:r.at_=nx
     ·simp only[hf,hst rfl ho];subst ho;have e3:placesF f s n (r.at_+1)=placesF (s.length+1-n) s n (r.at_+1):=placesF_fuel _ _ n _ hok.2 (by omega) (by omega)
      rcases out with _|⟨x,out⟩
      ·simp only[List.length_nil] at hnx hout;(simp(disch:=first|decide|omega|(intros;exact Eq.trans rfl rfl)|simp only[puri]) only[a144_0,hn,nextV,hg,Rec.len,Rec.tk,Rec.tkL,Rec.dat,Rec.lenL,Rec.enc,List.map_cons,List.map_nil,List.getElem?_cons_zero,outL,outB,List.append_nil,go_sem,seval,dis,vdr,A.kind,A.xs,optX,A.isN,visY,↓ops_consY,↓ops_conszY])
       rw[hr];(simp(disch:=first|decide|omega|(intros;exact Eq.trans rfl rfl)|simp only[puri]) only[visY,go_sem,seval,dis,vdr,A.kind,A.xs,optX,A.isN])
       (simp(disch:=first|decide|omega|(intros;exact Eq.trans rfl rfl)|simp only[puri]) only[go_sem,seval,dis,vdr,A.kind,A.xs,optX,A.isN,visY,↓ops_consY,↓ops_conszY])
       have hR':=hR (n,r.at_+1,[(r,a)]) (by simp only[];omega) ⟨hok.2,by simp;omega,by simp;omega⟩
       simp only[List.singleton_append,<- e3] at hR';exact hR' _ _ hdM
      ·simp only[List.length_cons] at hnx hout;(simp(disch:=first|decide|omega|(intros;exact Eq.trans rfl rfl)|simp only[puri]) only[a144_0,hn,nextV,hg,Rec.len,Rec.tk,Rec.tkL,Rec.dat,Rec.lenL,Rec.enc,List.map_cons,List.map_nil,List.getElem?_cons_zero,outL,outB,List.append_nil,go_sem,seval,dis,vdr,A.kind,A.xs,optX,A.isN,visY,↓ops_consY,↓ops_conszY])
       rw[hr];(simp(disch:=first|decide|omega|(intros;exact Eq.trans rfl rfl)|simp only[puri]) only[visY,go_sem,seval,dis,vdr,A.kind,A.xs,optX,A.isN])
       (simp(disch:=first|decide|omega|(intros;exact Eq.trans rfl rfl)|simp only[puri]) only[go_sem,seval,dis,vdr,A.kind,A.xs,optX,A.isN,visY,↓ops_consY,↓ops_conszY])
       have hR':=hR (n,r.at_+1,(x::out)++[(r,a)]) (by simp only[];omega) ⟨hok.2,by simp;omega,by simp;omega⟩
       simp only[List.append_assoc,List.singleton_append,<- e3,outL,outB,List.cons_append,List.length_cons,List.length_append,List.length_nil,Nat.zero_add,List.map_cons,List.map_append,List.map_nil,Rec.enc] at hR';exact hR' _ _ hdM
     ·simp only[hf,hof rfl ho];rcases out with _|⟨x,out⟩
      ·(simp(disch:=first|decide|omega|(intros;exact Eq.trans rfl rfl)|simp only[puri]) only[a144_0,hn,nextV,hg,Rec.len,Rec.tk,Rec.tkL,Rec.dat,Rec.lenL,Rec.enc,List.map_cons,List.map_nil,List.getElem?_cons_zero,outL,outB,List.append_nil,ho,go_sem,seval,dis,vdr,A.kind,A.xs,optX,A.isN,visY,↓ops_consY,↓ops_conszY])
       rw[rngK_r (q:=3) (k:=0) (by decide) rfl]
       (simp(disch:=first|decide|omega|(intros;exact Eq.trans rfl rfl)|simp only[puri]) only[visY,Rec.len,Rec.tk,Rec.tkL,Rec.dat,Rec.lenL,Rec.enc,List.map_cons,List.map_nil,go_sem,seval,dis,vdr,A.kind,A.xs,optX,A.isN,visM])
       simp[scanV,Rec.enc]
      ·simp only[List.length_cons] at hnx hout;(simp(disch:=first|decide|omega|(intros;exact Eq.trans rfl rfl)|simp only[puri]) only[a144_0,hn,nextV,hg,Rec.len,Rec.tk,Rec.tkL,Rec.dat,Rec.lenL,Rec.enc,List.map_cons,List.map_nil,List.getElem?_cons_zero,outL,outB,List.append_nil,ho,go_sem,seval,dis,vdr,A.kind,A.xs,optX,A.isN,visY,↓ops_consY,↓ops_conszY])
       rw[rngK_r (q:=3) (k:=0) (by decide) rfl]
       (simp(disch:=first|decide|omega|(intros;exact Eq.trans rfl rfl)|simp only[puri]) only[visY,Rec.len,Rec.tk,Rec.tkL,Rec.dat,Rec.lenL,Rec.enc,List.map_cons,List.map_nil,go_sem,seval,dis,vdr,A.kind,A.xs,optX,A.isN,visM])
       simp[scanV,Rec.enc]
    ·simp only[hf,hbd hz];rcases out with _|⟨x,out⟩
     ·(simp(disch:=first|decide|omega|(intros;exact Eq.trans rfl rfl)|simp only[puri]) only[a144_0,hn,nextV,hg,Rec.len,Rec.tk,Rec.tkL,Rec.dat,Rec.lenL,Rec.enc,List.map_cons,List.map_nil,List.getElem?_cons_zero,outL,outB,List.append_nil,hz,go_sem,seval,dis,vdr,A.kind,A.xs,optX,A.isN,visY,↓ops_consY,↓ops_conszY])
      rw[rngK_r (q:=3) (k:=0) (by decide) rfl]
      (simp(disch:=first|decide|omega|(intros;exact Eq.trans rfl rfl)|simp only[puri]) only[visY,Rec.len,Rec.tk,Rec.tkL,Rec.dat,Rec.lenL,Rec.enc,List.map_cons,List.map_nil,go_sem,seval,dis,vdr,A.kind,A.xs,optX,A.isN,visM])
      simp[scanV,Rec.enc]
     ·simp only[List.length_cons] at hnx hout;(simp(disch:=first|decide|omega|(intros;exact Eq.trans rfl rfl)|simp only[puri]) only[a144_0,hn,nextV,hg,Rec.len,Rec.tk,Rec.tkL,Rec.dat,Rec.lenL,Rec.enc,List.map_cons,List.map_nil,List.getElem?_cons_zero,outL,outB,List.append_nil,hz,go_sem,seval,dis,vdr,A.kind,A.xs,optX,A.isN,visY,↓ops_consY,↓ops_conszY])
      rw[rngK_r (q:=3) (k:=0) (by decide) rfl]
      (simp(disch:=first|decide|omega|(intros;exact Eq.trans rfl rfl)|simp only[puri]) only[visY,Rec.len,Rec.tk,Rec.tkL,Rec.dat,Rec.lenL,Rec.enc,List.map_cons,List.map_nil,go_sem,seval,dis,vdr,A.kind,A.xs,optX,A.isN,visM])
      simp[scanV,Rec.enc]
   ·simp only[hf,placesF_stop h hx he];rcases out with _|⟨x,out⟩
    ·(simp(disch:=first|decide|omega|(intros;exact Eq.trans rfl rfl)|simp only[puri]) only[a144_0,hn,nextV,hg,Rec.len,Rec.tk,Rec.tkL,Rec.dat,Rec.lenL,Rec.enc,List.map_cons,List.map_nil,List.getElem?_cons_zero,outL,outB,List.append_nil,he,go_sem,seval,dis,vdr,A.kind,A.xs,optX,A.isN,visY,↓ops_consY,↓ops_conszY])
     rw[rngK_r (q:=3) (k:=0) (by decide) rfl]
     (simp(disch:=first|decide|omega|(intros;exact Eq.trans rfl rfl)|simp only[puri]) only[visY,Rec.len,Rec.tk,Rec.tkL,Rec.dat,Rec.lenL,Rec.enc,List.map_cons,List.map_nil,go_sem,seval,dis,vdr,A.kind,A.xs,optX,A.isN,visM])
     simp[scanV,Rec.enc]
    ·simp only[List.length_cons] at hnx hout;(simp(disch:=first|decide|omega|(intros;exact Eq.trans rfl rfl)|simp only[puri]) only[a144_0,hn,nextV,hg,Rec.len,Rec.tk,Rec.tkL,Rec.dat,Rec.lenL,Rec.enc,List.map_cons,List.map_nil,List.getElem?_cons_zero,outL,outB,List.append_nil,he,go_sem,seval,dis,vdr,A.kind,A.xs,optX,A.isN,visY,↓ops_consY,↓ops_conszY])
     rw[rngK_r (q:=3) (k:=0) (by decide) rfl]
     (simp(disch:=first|decide|omega|(intros;exact Eq.trans rfl rfl)|simp only[puri]) only[visY,Rec.len,Rec.tk,Rec.tkL,Rec.dat,Rec.lenL,Rec.enc,List.map_cons,List.map_nil,go_sem,seval,dis,vdr,A.kind,A.xs,optX,A.isN,visM])
     simp[scanV,Rec.enc]
  ·rw[placesF_end h];have ea:a=s.length:=by omega
   rcases out with _|⟨x,out⟩
   ·(simp(disch:=first|decide|omega|(intros;exact Eq.trans rfl rfl)|simp only[puri]) only[a144_0,Rec.len,Rec.tk,Rec.tkL,Rec.dat,Rec.lenL,Rec.enc,List.map_cons,List.map_nil,List.getElem?_cons_zero,outL,outB,List.append_nil,ea,go_sem,seval,dis,vdr,A.kind,A.xs,optX,A.isN,visY,↓ops_consY,↓ops_conszY])
    rw[rngK_n (q:=3) (k:=0) (by decide) rfl]
    (simp(disch:=first|decide|omega|(intros;exact Eq.trans rfl rfl)|simp only[puri]) only[visY,Rec.len,Rec.tk,Rec.tkL,Rec.dat,Rec.lenL,Rec.enc,List.map_cons,List.map_nil,go_sem,seval,dis,vdr,A.kind,A.xs,optX,A.isN,visM])
    simp[scanV,Rec.enc]
   ·simp only[List.length_cons] at hnx hout;(simp(disch:=first|decide|omega|(intros;exact Eq.trans rfl rfl)|simp only[puri]) only[a144_0,Rec.len,Rec.tk,Rec.tkL,Rec.dat,Rec.lenL,Rec.enc,List.map_cons,List.map_nil,List.getElem?_cons_zero,outL,outB,List.append_nil,ea,go_sem,seval,dis,vdr,A.kind,A.xs,optX,A.isN,visY,↓ops_consY,↓ops_conszY])
    rw[rngK_n (q:=3) (k:=0) (by decide) rfl]
    (simp(disch:=first|decide|omega|(intros;exact Eq.trans rfl rfl)|simp only[puri]) only[visY,Rec.len,Rec.tk,Rec.tkL,Rec.dat,Rec.lenL,Rec.enc,List.map_cons,List.map_nil,go_sem,seval,dis,vdr,A.kind,A.xs,optX,A.isN,visM])
    simp[scanV,Rec.enc]
def ntE (x:Rec × Nat):List D:=[.i .i64 x.2]
def placesV (r:List (Rec × Nat) × Nat × Int):V:=.tup [(false,[.d (.l (r.1.map fun x=>x.1.enc))]),(false,[.d (.l (r.1.map ntE))]),(false,[.d (.i .i64 ((r.2.1:Nat):Int))]),(false,[.d (.i .i64 r.2.2)])]
set_option maxRecDepth 8000 in
theorem places_spec (s:List UInt8) (hs:s.length<=1000000) (b:Int) (hb : -9223372036854775808<=b∧b<9223372036854775808):call 114 [vs s,vi b] []=some (placesV (scanS s b),[]):=by
 apply enterS s114 rfl;unfold scanS;cases ho:offN b with
 | false =>
  by_cases c0:b<0
  ·(simp(disch:=first|decide|omega|(intros;exact Eq.trans rfl rfl)|simp only[puri]) only[a114,c0,go_sem,seval,dis])
   simp[placesV]
  ·have c1:¬ b<=1099511627776:=by simpa[offN,Int.not_lt.1 c0] using ho
   (simp(disch:=first|decide|omega|(intros;exact Eq.trans rfl rfl)|simp only[puri]) only[a114,c0,c1,go_sem,seval,dis])
   simp[placesV]
 | true =>
  have hb2:0<=b∧b<=1099511627776:=by simpa[offN] using ho
  (simp(disch:=first|decide|omega|(intros;exact Eq.trans rfl rfl)|simp only[puri]) only[a114,go_sem,seval,dis])
  refine loop_box (σ:=Nat × Int × List (Rec × Nat)) (fun t=>s.length-t.1) (fun t=>t.1<=s.length∧t.2.2.length<=t.1∧t.2.1=b+t.2.2.length) (fun t=>[vs s,vi b,.one (.sl 0 3 0 t.2.2.length),.one (.sl 1 1 0 t.2.2.length),vi t.1]) (fun t=>[.arr 3 (t.2.2.map fun x=>x.1.enc) 0,.arr 1 (t.2.2.map ntE) 0])
   (fun t=>(placesV (t.2.2++(placesF (s.length+1-t.1) s t.1 t.2.1).1,(placesF (s.length+1-t.1) s t.1 t.2.1).2),([]:Hp))) ?_ (0,b,[]) ⟨Nat.zero_le _,by simp,by simp⟩ _ _ (at_head2 (by decide) (by simp only[List.map_cons,List.map_nil,go_sem,seval];exact rfl) (by simp[idsOf,reach,place_cons,place_nil,canonH,V.ren,L.ren,Box.ren,V.refs,L.refs,Box.refs,true_and]) (by simp[idsOf,reach,place_cons,place_nil,canonH,V.ren,L.ren,Box.ren,V.refs,L.refs,Box.refs,true_and]))
  rintro⟨a,nx,out⟩ ⟨ha,hout,hnx⟩ R hR;simp only at ha hout hnx;rcases Nat.lt_or_ge a s.length with h|h
  ·obtain⟨f,hf⟩:∃ f,s.length+1-a=f+1:=⟨s.length-a,by omega⟩
   have hn:=refNext_spec s a (by omega) (by omega)
   have htl:=nextF_tlen s a;obtain⟨⟨t,n,e⟩,hx⟩:∃ x,nextF s a=x:=⟨_,rfl⟩;rw[hx] at hn htl;by_cases he:e=0
   ·subst he;have hok:=nextF_ok hx;have hg:=refGet_spec t (by simp only[] at htl;omega)
    have hst := @placesF_step s t a n f nx h hx;have hof := @placesF_off s t a n f nx h hx;have hbd := @placesF_bad s t a n f nx h hx;obtain⟨⟨r,g⟩,hq⟩:∃ x,getR t=x:=⟨_,rfl⟩;rw[hq] at hg hst hof hbd;simp only[recV] at hg hst hof hbd;by_cases hz:g=0
    ·subst hz;by_cases ho:r.at_=nx
     ·simp only[hf,hst rfl ho];have e3:placesF f s n (nx+1)=placesF (s.length+1-n) s n (nx+1):=placesF_fuel _ _ n _ hok.2 (by omega) (by omega)
      have hm:List.map (fun x:Rec × Nat=>x.1.enc) out++[r.enc]=List.map (fun x=>x.1.enc) (out++[(r,a)]):=by simp
      have hm2:List.map ntE out++[[D.i IntKind.i64 a]]=List.map ntE (out++[(r,a)]):=by simp[ntE]
      have fd:(r.enc.map L.d)[0]?=some (.d (.i .i64 nx)):=by rw[Rec.fd0,ho]
      (simp(disch:=first|decide|omega|(intros;exact Eq.trans rfl rfl)|simp only[puri]) only[a114_0,hn,nextV,hg,Rec.len,Rec.tk,Rec.tkL,Rec.dat,Rec.lenL,fd,<- hnx,go_sem,seval,dis])
      have hR':=hR (n,nx+1,out++[(r,a)]) (by simp only[];omega) ⟨hok.2,by simp;omega,by simp;omega⟩
      simp only[List.append_assoc,List.singleton_append,List.length_append,List.length_cons,List.length_nil,Nat.zero_add,Int.natCast_add,Int.natCast_one,<- Int.add_assoc,<- e3] at hR';exact hR' _ _ (at_head2 (by decide) (by simp only[List.map_cons,List.map_nil,go_sem,seval];exact rfl) (by simp[idsOf,reach,place_cons,place_nil,canonH,V.ren,L.ren,Box.ren,V.refs,L.refs,Box.refs,Rec.rfs,Rec.rn,ntE]) (by simp[idsOf,reach,place_cons,place_nil,canonH,V.ren,L.ren,Box.ren,V.refs,L.refs,Box.refs,Rec.rfs,Rec.rn,ntE]))
     ·simp only[hf,hof rfl ho];(simp(disch:=first|decide|omega|(intros;exact Eq.trans rfl rfl)|simp only[puri]) only[a114_0,hn,nextV,hg,placesV,Rec.len,Rec.tk,Rec.tkL,Rec.dat,Rec.lenL,Rec.fd0,ho,<- hnx,go_sem,seval,dis])
      try simp
    ·simp only[hf,hbd hz];(simp(disch:=first|decide|omega|(intros;exact Eq.trans rfl rfl)|simp only[puri]) only[a114_0,hn,nextV,hg,placesV,Rec.len,Rec.tk,Rec.tkL,Rec.dat,Rec.lenL,go_sem,seval,dis])
     try simp
   ·simp only[hf,placesF_stop h hx he];(simp(disch:=first|decide|omega|(intros;exact Eq.trans rfl rfl)|simp only[puri]) only[a114_0,hn,nextV,placesV,go_sem,seval,dis])
    try simp
  ·have hal:a=s.length:=by omega
   subst hal;simp only[placesF_end (Nat.le_refl _)];(simp(disch:=first|decide|omega|(intros;exact Eq.trans rfl rfl)|simp only[puri]) only[a114_0,placesV,go_sem,seval,dis])
   try simp
theorem refScan_spec (s:List UInt8) (hs:s.length<=1000000) (b:Int) (hb : -9223372036854775808<=b∧b<9223372036854775808):call 67 [vs s,vi b] []=some (scanV (scanS s b),[]):=by
 apply enterS s67 rfl;have hp:=places_spec s hs b hb;unfold placesV at hp;(simp(disch:=first|decide|omega|(intros;exact Eq.trans rfl rfl)|simp only[puri]) only[a67,hp,scanV,go_sem,seval,dis])
theorem placesF_len {s:List UInt8}:∀ (f a:Nat) (b:Int),a<=s.length->(placesF f s a b).1.length+a<=s.length:=by
 intro f;induction f with
 | zero=>intro a b h;simpa[placesF] using h
 | succ f ih =>
  intro a b h;rcases Nat.lt_or_ge a s.length with hal|hal
  ·obtain⟨⟨t,n,e⟩,hx⟩:∃ x,nextF s a=x:=⟨_,rfl⟩;by_cases he:e=0
   ·subst he;have:=nextF_ok hx;by_cases hg:(getR t).2=0
    ·by_cases ho:(getR t).1.at_=b
     ·rw[placesF_step hal hx hg ho];have:=ih n (b+1) (by omega)
      simp only[List.length_cons];omega
     ·rw[placesF_off hal hx hg ho];simpa using h
    ·rw[placesF_bad hal hx hg];simpa using h
   ·rw[placesF_stop hal hx he];simpa using h
  ·rw[placesF_end hal];simpa using h
theorem scanS_len (s:List UInt8) (b:Int):(scanS s b).1.length<=s.length:=by
 unfold scanS;split
 ·have:=placesF_len (s:=s) (s.length+1) 0 b (Nat.zero_le _);omega
 ·simp
end Go.Proofs.YtghfhomfppbooaaGreat
