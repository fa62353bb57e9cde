import Derived.Test.YtfalabebadoaiaaGreatT06
import Derived.Test.YtfalabebadoaiaaGreatT05
import Derived.Test.YtfalabebadoaiaaGreatT04
import Derived.Test.YtfalabebadoaiaaGreatT02
import Derived.Test.YtfalabebadoaiaaGreatVid
set_option linter.unusedSimpArgs false
set_option linter.unusedVariables false
namespace Go.Proofs.YtfalabebadoaiaaGreat
open Go.Vi
theorem snap_sto {k u:Nat} (s:Sto) (h:okS k u s) (hk:k≤800000):call 12 [.agg s.l] []=some (vs (snapT s),[]):=by
 have hf:call 44 [.agg s.l] []=some (vi s.floor,[]):=floor_spec s
 have hn:=snap_int (floor_ok h)
 have hr:=read_disk s.disk (Nat.le_trans h.dsk.len (by omega)) h.dsk.srt (snapN s.floor)
 have e:snapT s=if s.floor=0 then [] else (readF s.disk.files (snapN s.floor)).1:=rfl
 rw [e]
 generalize s.floor=fl at *
 generalize snapN fl=N at *
 generalize readF s.disk.files N=rf at *
 have hcell:s.l=[.d (.l (s.disk.files.map Fil.enc)),.d (.i .i64 s.disk.cap),.d (.b s.disk.armed),.d (.i .i64 s.disk.left),.d (.b s.disk.down),.d (.i .i64 s.ver),.d (.l (s.segs.map Seg.enc)),.d (.i .i64 s.next),.d (.i .i64 s.sure),.d (.i .i64 s.size),.d (.i .u32 s.sum)]:=rfl
 have hd:s.disk.l=[.d (.l (s.disk.files.map Fil.enc)),.d (.i .i64 s.disk.cap),.d (.b s.disk.armed),.d (.i .i64 s.disk.left),.d (.b s.disk.down)]:=rfl
 apply enterS s12 rfl
 rw [hcell] at hf ⊢
 rw [hd] at hr
 by_cases c:fl=0
 ·subst c
  rw [if_pos rfl]
  (simp (disch:=first|decide|omega|(intros;exact Eq.trans rfl rfl)|simp only[puri]) only [wkf,a12,hf,go_sem,seval,dis])
  try simp [trim]
 ·rw [if_neg c]
  (simp (disch:=first|decide|omega|(intros;exact Eq.trans rfl rfl)|simp only[puri]) only [wkf,a12,hf,hn,hr,c,go_sem,seval,dis])
  try simp [trim]
theorem parse_srt {s:List UInt8} {l:List Pr} (h:parseF s=some l):srtP l:=by
 have hr:rightF l=true:=by
  unfold parseF at h
  split at h
  ·split at h
   ·cases h
   ·unfold endF at h
    split at h
    ·split at h
     ·rename_i hc; cases h; exact hc.2
     ·cases h
    ·cases h
  ·cases h
 have key:∀ i,(hi:i+1 < l.length)→l[i].key < l[i+1].key:=by
  intro i hi
  have:=(List.all_eq_true.1 hr) (i+1) (by simpa using hi)
  simp only [atOk,List.getElem?_eq_getElem hi,Bool.and_eq_true,Bool.or_eq_true,decide_eq_true_eq] at this
  have h2:=this.2.resolve_left (by omega)
  have e:keyAt l (i+1 - 1)=l[i].key:=by simp [keyAt,List.getElem?_eq_getElem (show i < l.length by omega)]
  rwa [e] at h2
 have mono:∀ d i,(hi:i+1+d < l.length)→l[i].key < l[i+1+d].key:=by
  intro d
  induction d with
  | zero=>intro i hi; exact key i hi
  | succ d ih=>intro i hi; exact Int.lt_trans (ih i (by omega)) (key (i+1+d) hi)
 unfold srtP
 rw [List.pairwise_iff_getElem]
 intro i j hi hj hij
 have:=mono (j - i - 1) i (by omega)
 simpa only [show i+1+(j - i - 1)=j by omega] using this
def Sto.rcs (s:Sto) (g:Seg):List Rec:=(scanS (s.txt g) g.base).1.map (·.1)
def stP (s:Sto) (off:Int):List Seg→List Pr→List Pr
 | [],l=>l
 | g::r,l=>if off≤g.base then l else stP s off r (foldP l ((s.rcs g).take (off - g.base).toNat))
def stateP (s:Sto) (off:Int):List Pr:=stP s off s.segs ((parseF (snapT s)).getD [])
theorem rec_da (s:Sto) (g:Seg):∀ r∈s.rcs g,r.da.length≤64:=by
 intro r hr
 simp only [Sto.rcs,List.mem_map] at hr
 obtain ⟨x,hx,rfl⟩:=hr
 exact why_len (scan_why _ _ x hx)
theorem snapT_len {k u:Nat} {s:Sto} (h:okS k u s):(snapT s).length≤u:=by
 unfold snapT
 split
 ·simp
 ·exact Nat.le_trans (readF_len _ _) h.dsk.used
theorem par_ok (s:Sto):srtP ((parseF (snapT s)).getD [])∧okP ((parseF (snapT s)).getD []):=by
 cases h:parseF (snapT s) with
 | none=>exact ⟨List.Pairwise.nil,fun p hp=>by cases hp⟩
 | some l=>exact ⟨parse_srt h,(parse_ok h).1⟩
set_option maxRecDepth 8000 in
set_option maxHeartbeats 2000000 in
theorem state_sto {k u:Nat} (s:Sto) (h:okS k u s) (hk:k≤800000) (hu:u≤1000000) (off:Int) (hoff:0≤off∧off≤1099511627776):call 16 [.agg s.l,vi off] []=some (vl ((stateP s off).map Pr.enc),[]):=by
 have hs:=snap_sto s h hk
 have hsl:=snapT_len h
 have hp:=parse_fold (snapT s) (by omega)
 have hpv:∃ ok:Bool,parseV (parseF (snapT s))=.tup [(false,[.d (.l (((parseF (snapT s)).getD []).map Pr.enc))]),(false,[.d (.b ok)])]:=by
  cases parseF (snapT s) with
  | none=>exact ⟨false,rfl⟩
  | some l=>exact ⟨true,rfl⟩
 have hl0:=par_ok s
 obtain ⟨Z,hZ⟩:∃ Z:V,Z=vl ((stateP s off).map Pr.enc):=⟨_,rfl⟩
 rw [← hZ]
 have hZ':Z=vl ((stP s off s.segs ((parseF (snapT s)).getD [])).map Pr.enc):=hZ
 clear hZ
 obtain ⟨ok,hpv⟩:=hpv
 rw [hpv] at hp
 generalize (parseF (snapT s)).getD []=l0 at *
 generalize snapT s=sn at *
 have hlen:=h.len
 have hseg:=h.seg
 have hrd:=fun g=>read_disk s.disk (Nat.le_trans h.dsk.len (by omega)) h.dsk.srt (fileN g)
 have hd:s.disk.l=[.d (.l (s.disk.files.map Fil.enc)),.d (.i .i64 s.disk.cap),.d (.b s.disk.armed),.d (.i .i64 s.disk.left),.d (.b s.disk.down)]:=rfl
 rw [hd] at hrd
 have hcell:s.l=[.d (.l (s.disk.files.map Fil.enc)),.d (.i .i64 s.disk.cap),.d (.b s.disk.armed),.d (.i .i64 s.disk.left),.d (.b s.disk.down),.d (.i .i64 s.ver),.d (.l (s.segs.map Seg.enc)),.d (.i .i64 s.next),.d (.i .i64 s.sure),.d (.i .i64 s.size),.d (.i .u32 s.sum)]:=rfl
 apply enterS s16 rfl
 rw [hcell] at hs ⊢
 (simp (disch:=first|decide|omega|(intros;exact Eq.trans rfl rfl)|simp only[puri]) only [wkf,a16,hs,hp,go_sem,seval,dis])
 refine loop_boxM (m:=0) (σ:=Nat × List Pr) (fun t=>s.segs.length - t.1) (fun t=>t.1≤s.segs.length∧(srtP t.2∧okP t.2)∧Z=vl ((stP s off (s.segs.drop t.1) t.2).map Pr.enc)) (fun t=>[vi off,V.one (.p 0 0),vl (t.2.map Pr.enc),vl (s.segs.map Seg.enc),vi s.segs.length,vi t.1])
  (fun _=>[.cells [.d (.l (s.disk.files.map Fil.enc)),.d (.i .i64 s.disk.cap),.d (.b s.disk.armed),.d (.i .i64 s.disk.left),.d (.b s.disk.down),.d (.i .i64 s.ver),.d (.l (s.segs.map Seg.enc)),.d (.i .i64 s.next),.d (.i .i64 s.sure),.d (.i .i64 s.size),.d (.i .u32 s.sum)]]) (fun _=>(Z,[])) ?_ (0,l0) ⟨Nat.zero_le _,hl0,hZ'⟩ _ _ hdM
 rintro ⟨i,l⟩ ⟨h1,h2,h3⟩ R hR
 simp only at h1 h2 h3
 by_cases c:i < s.segs.length
 ·have hc:(i:Int) < (s.segs.length:Int):=by omega
  rw [List.drop_eq_getElem_cons c,stP] at h3
  have g1:(s.segs.map Seg.enc)[i]?=some s.segs[i].enc:=by rw [List.getElem?_map,List.getElem?_eq_getElem c]; rfl
  have hg:=hseg _ (List.getElem_mem c)
  have g2:=seg_int hg.1
  have g3:=hrd s.segs[i].base
  have g4:=scan_spec (s.txt s.segs[i]) (Nat.le_trans (readF_len _ _) (Nat.le_trans h.dsk.used hu)) s.segs[i].base (by omega)
  have hrc:s.rcs s.segs[i]=(scanS (s.txt s.segs[i]) s.segs[i].base).1.map (·.1):=rfl
  have hrd2:=rec_da s s.segs[i]
  have hrl:(s.rcs s.segs[i]).length≤1000000:=by
   rw [hrc,List.length_map]
   exact Nat.le_trans (scanS_len _ _) (Nat.le_trans (readF_len _ _) (Nat.le_trans h.dsk.used hu))
  have e4:scanV (scanS (s.txt s.segs[i]) s.segs[i].base)=.tup [(false,[.d (.l ((s.rcs s.segs[i]).map Rec.enc))]),(false,[.d (.i .i64 (((scanS (s.txt s.segs[i]) s.segs[i].base).2.1:Nat):Int))]),(false,[.d (.i .i64 (scanS (s.txt s.segs[i]) s.segs[i].base).2.2)])]:=by
   unfold scanV; rw [hrc,List.map_map]; rfl
  rw [e4] at g4
  have htx:s.txt s.segs[i]=(readF s.disk.files (fileN s.segs[i].base)).1:=rfl
  rw [htx] at g4
  generalize (scanS (readF s.disk.files (fileN s.segs[i].base)).1 s.segs[i].base).2=z at *
  generalize s.rcs s.segs[i]=RR at *
  clear hrc htx e4
  generalize s.segs[i]=g at *
  generalize readF s.disk.files (fileN g.base)=rf at *
  obtain ⟨gb,gn,gz⟩:=g
  simp only [Seg.enc] at *
  by_cases c2:off≤gb
  ·rw [if_pos c2] at h3
   rw [h3]
   (simp (disch:=first|decide|omega|(intros;exact Eq.trans rfl rfl)|simp only[puri]) only [wkf,a16_0,a16,decide_eq_true hc,g1,decide_eq_true c2,go_sem,seval,dis])
   try simp [trim]
  ·rw [if_neg c2] at h3
   have ht:=foldP_ok (RR.take (off - gb).toNat) l h2.1 h2.2 (fun r hr=>hrd2 r (List.mem_of_mem_take hr))
   have g5:=fold_spec l h2.1 h2.2 (RR.take (off - gb).toNat) (by simp; omega) (fun r hr=>hrd2 r (List.mem_of_mem_take hr))
   have hR':=hR (i+1,foldP l (RR.take (off - gb).toNat)) (by simp only []; omega) ⟨by simp only []; omega,⟨ht.1,ht.2.1⟩,h3⟩
   have em:List.take (if off - gb < (RR.length:Int) then off - gb else (RR.length:Int)).toNat (RR.map Rec.enc)=(RR.take (off - gb).toNat).map Rec.enc:=by
    rw [← List.map_take]
    congr 1
    split
    ·rfl
    ·rw [List.take_of_length_le (by omega),List.take_of_length_le (by omega)]
   have hok:okRows 3 (RR.map Rec.enc)=true:=okRows_map Rec.len _
   generalize foldP l (RR.take (off - gb).toNat)=l2 at *
   (simp (disch:=first|decide|omega|(intros;exact Eq.trans rfl rfl)|simp only[puri]) only [wkf,a16_0,decide_eq_true hc,g1,decide_eq_false c2,g2,g3,g4,hok,em,g5,go_sem,seval,dis])
   exact hR' _ _ hdM
 ·have hc:¬ (i:Int) < (s.segs.length:Int):=by omega
  rw [List.drop_eq_nil_of_le (by omega),stP] at h3
  rw [h3]
  (simp (disch:=first|decide|omega|(intros;exact Eq.trans rfl rfl)|simp only[puri]) only [wkf,a16_0,a16,decide_eq_false hc,go_sem,seval,dis])
  try simp [trim]
structure Act where
 kind:Int
 n:Int
 data:List UInt8
 deriving DecidableEq
def Act.enc (e:Act):List D:=[.i .i64 e.kind,.i .i64 e.n,.s e.data]
theorem Act.len (e:Act):e.enc.length=3:=Eq.trans rfl rfl
theorem Act.tk (e:Act):e.enc.take 3=e.enc:=Eq.trans rfl rfl
theorem Act.tkL (e:Act):(e.enc.map L.d).take 3=e.enc.map L.d:=Eq.trans rfl rfl
theorem Act.dat (e:Act):dataLs (e.enc.map L.d)=some (e.enc.map L.d):=Eq.trans rfl rfl
theorem Act.rfs (e:Act):(e.enc.map L.d).flatMap L.refs=[]:=Eq.trans rfl rfl
theorem Act.rn (e:Act) (g:Nat→Option Nat):(e.enc.map L.d).map (L.ren g)=e.enc.map L.d:=Eq.trans rfl rfl
theorem Act.lenL (e:Act):(e.enc.map L.d).length=3:=Eq.trans rfl rfl
theorem Act.at0 (e:Act):e.enc[0]?=some (.i .i64 e.kind):=Eq.trans rfl rfl
theorem Act.fd0 (e:Act):(e.enc.map L.d)[0]?=some (.d (.i .i64 e.kind)):=Eq.trans rfl rfl
theorem Act.at1 (e:Act):(e.enc.drop 1)[0]?=some (.i .i64 e.n):=Eq.trans rfl rfl
theorem Act.fd1 (e:Act):(e.enc.map L.d)[1]?=some (.d (.i .i64 e.n)):=Eq.trans rfl rfl
theorem Act.at2 (e:Act):(e.enc.drop 2)[0]?=some (.s e.data):=Eq.trans rfl rfl
theorem Act.fd2 (e:Act):(e.enc.map L.d)[2]?=some (.d (.s e.data)):=Eq.trans rfl rfl
theorem Act.up1 (e:Act) (x:Int):e.enc.take 1++[.i .i64 x]++e.enc.drop 2=({ e with n:=x }:Act).enc:=Eq.trans rfl rfl
theorem Act.up2 (e:Act) (x:List UInt8):e.enc.take 2++[.s x]++e.enc.drop 3=({ e with data:=x }:Act).enc:=Eq.trans rfl rfl
def Act.ok (e:Act):Prop:=(-9223372036854775808≤e.kind∧e.kind < 9223372036854775808)∧(-9223372036854775808≤e.n∧e.n < 9223372036854775808)∧e.data.length≤9223372036854775807
def Act.ty:List Ty:=[.i .i64,.i .i64,.s]
theorem Act.eqs (a b:Act):scEqs [0,0,2] (a.enc.map L.d) (b.enc.map L.d)=some (decide (a=b)):=by
 cases a; cases b
 simp only [Act.enc,List.map_cons,List.map_nil,scEqs,scEq,if_true,Act.mk.injEq]
 congr 1
 rw [Bool.eq_iff_iff]
 simp only [Bool.and_eq_true,beq_iff_eq,decide_eq_true_eq,and_true]
def armD (d:Dsk) (n:Int):Dsk:={ d with armed:=decide (0≤n),left:=if 0 < n then n else 0 }
def limD (d:Dsk) (n:Int):Dsk:={ d with cap:=if 0 < n then n else 0 }
theorem arm_spec (d:Dsk) (n:Int) (hn : -9223372036854775808≤n∧n < 9223372036854775808):call 25 [.agg d.l,vi n] []=some (.agg (armD d n).l,[]):=by
 apply enterS s25 rfl
 obtain ⟨fl,cp,ar,lf,dn⟩:=d
 unfold armD
 by_cases c:0 < n
 ·have c2:0≤n:=by omega
  (simp (disch:=first|decide|omega|(intros;exact Eq.trans rfl rfl)|simp only[puri]) only [wkf,a25,Dsk.l,c,c2,go_sem,seval,dis])
  try simp [trim]
  try omega
 ·have c3:¬ n > 0:=c
  (simp (disch:=first|decide|omega|(intros;exact Eq.trans rfl rfl)|simp only[puri]) only [wkf,a25,Dsk.l,c,go_sem,seval,dis])
  try simp [trim]
  try omega
theorem lim_spec (d:Dsk) (n:Int) (hn : -9223372036854775808≤n∧n < 9223372036854775808):call 26 [.agg d.l,vi n] []=some (.agg (limD d n).l,[]):=by
 apply enterS s26 rfl
 obtain ⟨fl,cp,ar,lf,dn⟩:=d
 unfold limD
 by_cases c:0 < n
 ·(simp (disch:=first|decide|omega|(intros;exact Eq.trans rfl rfl)|simp only[puri]) only [wkf,a26,Dsk.l,c,go_sem,seval,dis])
  try simp [trim]
  try omega
 ·(simp (disch:=first|decide|omega|(intros;exact Eq.trans rfl rfl)|simp only[puri]) only [wkf,a26,Dsk.l,c,go_sem,seval,dis])
  try simp [trim]
  try omega
theorem createT_ok {k u:Nat} {d:Dsk} (h:okN k u d) (h0:(createT d).2=0):okS (k+2) (u+1000) (createT d).1∧(∀ seg:Int,0≤seg→Hold 0 seg (createT d).1 [])∧(createT d).1.next=0∧(createT d).1.sure=0:=by
 have k1:=crt_ok (s:=(d,0)) h (fileN 0)
 unfold createT at h0 ⊢
 simp only [] at h0 ⊢
 have k2:okN (k+2) (u+1000) (if (crtS (fileN 0) (d,0)).2=0 then swapS ⟨1,[0],0,0⟩ (crtS (fileN 0) (d,0)) else crtS (fileN 0) (d,0)).1:=by
  split
  ·exact (swap_okN k1 _).up (by omega) (by omega)
  ·exact k1.up (by omega) (by omega)
 have hd:(crtS (fileN 0) (d,0)).2=0→hasD (if (crtS (fileN 0) (d,0)).2=0 then swapS ⟨1,[0],0,0⟩ (crtS (fileN 0) (d,0)) else crtS (fileN 0) (d,0)).1.files (fileN 0) []:=fun hc=>by
  rw [if_pos hc]; exact swap_keep k1 _ (fileN_n _ _) (fileN_n _ _) (crt_new hc)
 have hc:(if (crtS (fileN 0) (d,0)).2=0 then swapS ⟨1,[0],0,0⟩ (crtS (fileN 0) (d,0)) else crtS (fileN 0) (d,0)).2=0→(crtS (fileN 0) (d,0)).2=0:=fun hx=>by
  by_cases hc:(crtS (fileN 0) (d,0)).2=0
  ·exact hc
  ·rw [if_neg hc] at hx; exact hx
 generalize (if (crtS (fileN 0) (d,0)).2=0 then swapS ⟨1,[0],0,0⟩ (crtS (fileN 0) (d,0)) else crtS (fileN 0) (d,0))=s2 at *
 by_cases c:s2.2=0
 ·rw [if_pos c]
  have hd:=hd (hc c)
  refine ⟨⟨k2,by simp,?_,by simp,⟨by simp,by simp only []; omega⟩,by simp⟩,fun seg hs=>⟨[],⟨0,0,0⟩,[],⟨rfl,?_,rfl,rfl,by simp⟩,⟨fun p hp=>(by cases hp),by simp only []; omega⟩,rfl⟩,rfl,rfl⟩
  ·intro g hg
   simp only [List.mem_singleton] at hg
   subst hg
   simp
   omega
  ·intro p hp
   simp only [List.nil_append,List.mem_singleton] at hp
   subst hp
   exact ⟨hd,fun r hr=>(by cases hr),fun k hk=>(by simp at hk),rfl,rfl⟩
 ·rw [if_neg c] at h0; exact absurd h0 c
def d0:Dsk:=⟨[],0,false,0,false⟩
theorem d0_ok:okN 0 0 d0:=⟨Nat.le_refl _,List.Pairwise.nil,by decide,by decide,Nat.le_refl _⟩
theorem d0_new:(createT d0).2=0:=by decide +kernel
set_option maxRecDepth 8000 in
theorem pswap_spec (d:Dsk) {k u:Nat} (hd:okN k u d) (hk:k≤900000) (hu:u≤900000000000) (m:Man) (hm:m.ok):call 40 [.agg d.l,.agg m.l] []=some (dskV (swapS m (d,0)),[]):=by
 have q:=sswap_spec (d,0) hd hk hu m hm
 apply enterS s40 rfl
 generalize swapS m (d,0)=w at *
 obtain ⟨mv,ms,mz,mm⟩:=m
 obtain ⟨fl,cp,ar,lf,dn⟩:=d
 obtain ⟨⟨f2,cp2,ar2,lf2,dn2⟩,e2⟩:=w
 simp only [stB,Dsk.l,Man.l,List.cons_append,List.nil_append] at q
 have r:∀ P Q R:Box,callIso call 82 [.one (.p 3 0),.agg [.d (.i .i64 mv),.d (.l (ms.map eI)),.d (.i .i64 mz),.d (.i .u32 mm)]] [P,Q,R,.cells [.d (.l (fl.map Fil.enc)),.d (.i .i64 cp),.d (.b ar),.d (.i .i64 lf),.d (.b dn),.d (.i .i64 0)]]=some (.tup [],[P,Q,R,.cells [.d (.l (f2.map Fil.enc)),.d (.i .i64 cp2),.d (.b ar2),.d (.i .i64 lf2),.d (.b dn2),.d (.i .i64 e2)]]):=fun P Q R =>
  iso_at (ids:=[3]) rfl rfl rfl q rfl
 (simp (disch:=first|decide|omega|(intros;exact Eq.trans rfl rfl)|simp only[puri]) only [wkf,a40,Dsk.l,Man.l,↓r,go_sem,seval,dis,vdr,A.kind,A.xs,optX,A.isN])
 try simp [trim,dskV,Dsk.l]
theorem tr1_spec (d:Dsk) (hd:d.ok) (n:Txt):call 32 [.agg d.l,.one (.p 0 0)] [.cells [.d (.s n)]]=some (dskV (chgF d (crtR d.files n)),[.cells [.d (.s n)]]):=by
 have h:=create_spec d hd n
 generalize chgF d (crtR d.files n)=q at *
 obtain ⟨⟨fl,cp,ar,lf,dn⟩,qe⟩:=q
 obtain ⟨fl0,cp0,ar0,lf0,dn0⟩:=d
 simp only [dskV,Dsk.l] at h ⊢
 apply enterS s32 rfl
 (simp (disch:=first|decide|omega|(intros;exact Eq.trans rfl rfl)|simp only[puri]) only [wkf,a32,h,go_sem,seval,dis])
 try simp [trim,V.refs,L.refs,Box.refs]
theorem tr3_spec (d:Dsk) (hd:d.ok) (n:Txt):call 37 [.agg d.l,.one (.p 0 0)] [.cells [.d (.s n)]]=some (dskV (chgF d (synR d.files n)),[.cells [.d (.s n)]]):=by
 have h:=sync_disk d hd n
 generalize chgF d (synR d.files n)=q at *
 obtain ⟨⟨fl,cp,ar,lf,dn⟩,qe⟩:=q
 obtain ⟨fl0,cp0,ar0,lf0,dn0⟩:=d
 simp only [dskV,Dsk.l] at h ⊢
 apply enterS s37 rfl
 (simp (disch:=first|decide|omega|(intros;exact Eq.trans rfl rfl)|simp only[puri]) only [wkf,a37,h,go_sem,seval,dis])
 try simp [trim,V.refs,L.refs,Box.refs]
theorem tr2_spec (d:Dsk) (hd:d.ok) (n x:Txt) (hx:x.length≤1000000000000):call 35 [.agg d.l,.one (.p 0 0),.one (.p 1 0)] [.cells [.d (.s n)],.cells [.d (.s x)]]=some (dskV (chgF d (appR d.files d.cap n x)),[.cells [.d (.s n)],.cells [.d (.s x)]]):=by
 have h:=append_spec d hd n x hx
 generalize chgF d (appR d.files d.cap n x)=q at *
 obtain ⟨⟨fl,cp,ar,lf,dn⟩,qe⟩:=q
 obtain ⟨fl0,cp0,ar0,lf0,dn0⟩:=d
 simp only [dskV,Dsk.l] at h ⊢
 apply enterS s35 rfl
 (simp (disch:=first|decide|omega|(intros;exact Eq.trans rfl rfl)|simp only[puri]) only [wkf,a35,h,go_sem,seval,dis])
 try simp [trim,V.refs,L.refs,Box.refs]
theorem tr4_spec {k u:Nat} (d:Dsk) (hd:okN k u d) (hk:k≤900000) (hu:u≤900000000000) (X:Sto) (hl:X.segs.length≤1000000) (hm:X.man.ok):call 39 [.agg d.l,.one (.p 0 0)] [.cells [.d (.l (X.disk.files.map Fil.enc)),.d (.i .i64 X.disk.cap),.d (.b X.disk.armed),.d (.i .i64 X.disk.left),.d (.b X.disk.down),.d (.i .i64 X.ver),.cl (X.segs.map Seg.enc),.d (.i .i64 X.next),.d (.i .i64 X.sure),.d (.i .i64 X.size),.d (.i .u32 X.sum)]]=some (dskV (swapS X.man (d,0)),[.cells [.d (.l (X.disk.files.map Fil.enc)),.d (.i .i64 X.disk.cap),.d (.b X.disk.armed),.d (.i .i64 X.disk.left),.d (.b X.disk.down),.d (.i .i64 X.ver),.cl (X.segs.map Seg.enc),.d (.i .i64 X.next),.d (.i .i64 X.sure),.d (.i .i64 X.size),.d (.i .u32 X.sum)]]):=by
 have q1:=man_spec X hl
 have q2:=pswap_spec d hd hk hu X.man hm
 have hml:X.man.l=[.d (.i .i64 X.ver),.d (.l ((X.segs.map Seg.base).map eI)),.d (.i .i64 X.size),.d (.i .u32 X.sum)]:=rfl
 generalize swapS X.man (d,0)=q at *
 obtain ⟨⟨fl,cp,ar,lf,dn⟩,qe⟩:=q
 obtain ⟨fl0,cp0,ar0,lf0,dn0⟩:=d
 have hX:X.l=[.d (.l (X.disk.files.map Fil.enc)),.d (.i .i64 X.disk.cap),.d (.b X.disk.armed),.d (.i .i64 X.disk.left),.d (.b X.disk.down),.d (.i .i64 X.ver),.d (.l (X.segs.map Seg.enc)),.d (.i .i64 X.next),.d (.i .i64 X.sure),.d (.i .i64 X.size),.d (.i .u32 X.sum)]:=rfl
 rw [hX,hml] at q1
 rw [hml] at q2
 simp only [dskV,Dsk.l] at q2 ⊢
 apply enterS s39 rfl
 (simp (disch:=first|decide|omega|(intros;exact Eq.trans rfl rfl)|simp only[puri]) only [wkf,a39,q1,q2,go_sem,seval,dis,vdr,A.kind,A.xs,optX,A.isN])
 try simp [trim,V.refs,L.refs,Box.refs]
theorem unl_eq (n:Txt) (d:Dsk) (e:Int):unlS n (d,e)=if e=9 then (if (chgF d (delR d.files n)).2=0 then ((chgF d (delR d.files n)).1,9) else chgF d (delR d.files n)) else (d,e):=by
 have e1:delS n (d,0)=chgF d (delR d.files n):=stp_ye _ _
 unfold unlS
 simp only [e1]
 split <;> simp_all
theorem unlA_spec {k u:Nat} (d:Dsk) (hd:okN k u d) (hk:k≤800000) (hu:u≤800000000000) (n x:Txt) (hx:x.length≤1000000):call 77 [.agg d.l,.one (.p 0 0),.one (.p 3 0)] [.cells [.f 35 [1,2]],.cells [.d (.s n)],.cells [.d (.s x)],.cells [.d (.s n)]]=some (dskV (unlS n (appS n x (d,0))),[.cells [.f 35 [1,2]],.cells [.d (.s n)],.cells [.d (.s x)],.cells [.d (.s n)]]):=by
 have h0:=tr2_spec d (hd.ok (by omega) (by omega)) n x (by omega)
 have kk:=app_ok (s:=(d,0)) hd n x
 have ea:appS n x (d,0)=chgF d (appR d.files d.cap n x):=stp_ye _ _
 rw [ea] at kk ⊢
 generalize chgF d (appR d.files d.cap n x)=q at *
 obtain ⟨q1,qe⟩:=q
 have h1:=delete_spec q1 (kk.ok (by omega) (by omega)) n
 rw [unl_eq]
 generalize chgF q1 (delR q1.files n)=r at *
 obtain ⟨⟨rfl_,rcp,rar,rlf,rdn⟩,re⟩:=r
 obtain ⟨fl,cp,ar,lf,dn⟩:=q1
 obtain ⟨fl0,cp0,ar0,lf0,dn0⟩:=d
 simp only [dskV,Dsk.l] at h0 h1 ⊢
 have h2:∀ a b c e,callIso call 35 [.agg [.d (.l (fl0.map Fil.enc)),.d (.i .i64 cp0),.d (.b ar0),.d (.i .i64 lf0),.d (.b dn0)],.one (.p 1 0),.one (.p 2 0)] [a,.cells [.d (.s n)],.cells [.d (.s x)],b,c,e]=some (.tup [(true,[.d (.l (fl.map Fil.enc)),.d (.i .i64 cp),.d (.b ar),.d (.i .i64 lf),.d (.b dn)]),(false,[.d (.i .i64 qe)])],[a,.cells [.d (.s n)],.cells [.d (.s x)],b,c,e]):=fun a b c e =>
  iso_at (ids:=[1,2]) rfl rfl rfl h0 rfl
 apply enterS s77 rfl
 by_cases c:qe=9
 ·subst c
  rw [if_pos rfl]
  by_cases c2:re=0
  ·subst c2
   rw [if_pos rfl]
   (simp (disch:=first|decide|omega|(intros;exact Eq.trans rfl rfl)|simp only[puri]) only [wkf,a77,h2,h1,go_sem,seval,dis])
   try simp [trim,V.refs,L.refs,Box.refs]
  ·rw [if_neg c2]
   (simp (disch:=first|decide|omega|(intros;exact Eq.trans rfl rfl)|simp only[puri]) only [wkf,a77,h2,h1,c2,go_sem,seval,dis])
   try simp [trim,V.refs,L.refs,Box.refs,c2]
 ·rw [if_neg c]
  (simp (disch:=first|decide|omega|(intros;exact Eq.trans rfl rfl)|simp only[puri]) only [wkf,a77,h2,h1,c,go_sem,seval,dis])
  try simp [trim,V.refs,L.refs,Box.refs,c]
theorem unlB_spec {k u:Nat} (d:Dsk) (hd:okN k u d) (hk:k≤800000) (hu:u≤800000000000) (n:Txt) (X:Sto) (hl:X.segs.length≤1000000) (hm:X.man.ok):call 77 [.agg d.l,.one (.p 0 0),.one (.p 2 0)] [.cells [.f 39 [1]],.cells [.d (.l (X.disk.files.map Fil.enc)),.d (.i .i64 X.disk.cap),.d (.b X.disk.armed),.d (.i .i64 X.disk.left),.d (.b X.disk.down),.d (.i .i64 X.ver),.cl (X.segs.map Seg.enc),.d (.i .i64 X.next),.d (.i .i64 X.sure),.d (.i .i64 X.size),.d (.i .u32 X.sum)],.cells [.d (.s n)]]=some (dskV (unlS n (swapS X.man (d,0))),[.cells [.f 39 [1]],.cells [.d (.l (X.disk.files.map Fil.enc)),.d (.i .i64 X.disk.cap),.d (.b X.disk.armed),.d (.i .i64 X.disk.left),.d (.b X.disk.down),.d (.i .i64 X.ver),.cl (X.segs.map Seg.enc),.d (.i .i64 X.next),.d (.i .i64 X.sure),.d (.i .i64 X.size),.d (.i .u32 X.sum)],.cells [.d (.s n)]]):=by
 have h0:=tr4_spec d hd (by omega) (by omega) X hl hm
 have kk:=swap_okN (s:=(d,0)) hd X.man
 generalize swapS X.man (d,0)=q at *
 obtain ⟨q1,qe⟩:=q
 have h1:=delete_spec q1 (kk.ok (by omega) (by omega)) n
 rw [unl_eq]
 generalize chgF q1 (delR q1.files n)=r at *
 obtain ⟨⟨rfl_,rcp,rar,rlf,rdn⟩,re⟩:=r
 obtain ⟨fl,cp,ar,lf,dn⟩:=q1
 obtain ⟨fl0,cp0,ar0,lf0,dn0⟩:=d
 simp only [dskV,Dsk.l] at h0 h1 ⊢
 have h2:∀ a b c e,callIso call 39 [.agg [.d (.l (fl0.map Fil.enc)),.d (.i .i64 cp0),.d (.b ar0),.d (.i .i64 lf0),.d (.b dn0)],.one (.p 1 0)] [a,.cells [.d (.l (X.disk.files.map Fil.enc)),.d (.i .i64 X.disk.cap),.d (.b X.disk.armed),.d (.i .i64 X.disk.left),.d (.b X.disk.down),.d (.i .i64 X.ver),.cl (X.segs.map Seg.enc),.d (.i .i64 X.next),.d (.i .i64 X.sure),.d (.i .i64 X.size),.d (.i .u32 X.sum)],b,c,e]=some (.tup [(true,[.d (.l (fl.map Fil.enc)),.d (.i .i64 cp),.d (.b ar),.d (.i .i64 lf),.d (.b dn)]),(false,[.d (.i .i64 qe)])],[a,.cells [.d (.l (X.disk.files.map Fil.enc)),.d (.i .i64 X.disk.cap),.d (.b X.disk.armed),.d (.i .i64 X.disk.left),.d (.b X.disk.down),.d (.i .i64 X.ver),.cl (X.segs.map Seg.enc),.d (.i .i64 X.next),.d (.i .i64 X.sure),.d (.i .i64 X.size),.d (.i .u32 X.sum)],b,c,e]):=fun a b c e =>
  iso_at (ids:=[1]) rfl rfl rfl h0 rfl
 apply enterS s77 rfl
 by_cases c:qe=9
 ·subst c
  rw [if_pos rfl]
  by_cases c2:re=0
  ·subst c2
   rw [if_pos rfl]
   (simp (disch:=first|decide|omega|(intros;exact Eq.trans rfl rfl)|simp only[puri]) only [wkf,a77,h2,h1,go_sem,seval,dis])
   try simp [trim,V.refs,L.refs,Box.refs]
  ·rw [if_neg c2]
   (simp (disch:=first|decide|omega|(intros;exact Eq.trans rfl rfl)|simp only[puri]) only [wkf,a77,h2,h1,c2,go_sem,seval,dis])
   try simp [trim,V.refs,L.refs,Box.refs,c2]
 ·rw [if_neg c]
  (simp (disch:=first|decide|omega|(intros;exact Eq.trans rfl rfl)|simp only[puri]) only [wkf,a77,h2,h1,c,go_sem,seval,dis])
  try simp [trim,V.refs,L.refs,Box.refs,c]
theorem trem1_spec (d:Dsk) (hd:d.ok) (n:Txt):call 83 [.agg d.l,.one (.ip [.s n])] []=some (dskV (chgF d (delR d.files n)),[]):=by
 have h:=delete_spec d hd n
 generalize chgF d (delR d.files n)=q at *
 obtain ⟨⟨fl,cp,ar,lf,dn⟩,qe⟩:=q
 obtain ⟨fl0,cp0,ar0,lf0,dn0⟩:=d
 simp only [dskV,Dsk.l] at h ⊢
 apply enterS s83 rfl
 (simp (disch:=first|decide|omega|(intros;exact Eq.trans rfl rfl)|simp only[puri]) only [wkf,a83,h,go_sem,seval,dis])
 try simp [trim]
theorem trem_spec (n:Txt):call 42 [vs n] []=some (.one (.f 83 [0]),[.cells [.d (.s n)]]):=by
 apply enterS s42 rfl
 have htr:∀ H:Hp,trim 0 (.one (.f 83 [0])) H=(.one (.f 83 [0]),H):=fun H=>by simp [trim,V.refs,L.refs]
 (simp (disch:=first|decide|omega|(intros;exact Eq.trans rfl rfl)|simp only[puri]) only [wkf,a42,↓htr,go_sem,seval,dis])
def w3 (n:Txt) (m:Man) (d:Dsk):Dsk × Int:=unlS n (swapS m (d,0))
def w2 (n:Txt) (m:Man) (d:Dsk):Dsk × Int:=if (chgF d (synR d.files n)).2≠0 then chgF d (synR d.files n) else w3 n m (chgF d (synR d.files n)).1
def w1 (n x:Txt) (m:Man) (d:Dsk):Dsk × Int:=if (unlS n (appS n x (d,0))).2≠0 then unlS n (appS n x (d,0)) else w2 n m (unlS n (appS n x (d,0))).1
def w0 (n x:Txt) (m:Man) (d:Dsk):Dsk × Int:=if (chgF d (crtR d.files n)).2≠0 then chgF d (crtR d.files n) else w1 n x m (chgF d (crtR d.files n)).1
def wT (n x:Txt) (m:Man):Nat→Dsk→Dsk × Int
 | 0,d=>w0 n x m d
 | 1,d=>w1 n x m d
 | 2,d=>w2 n m d
 | 3,d=>w3 n m d
 | _,d=>(d,0)
theorem lay_eq (d:Dsk) (n x:Txt) (m:Man):layT d n x m=w0 n x m d:=by
 have e1:crtS n (d,0)=chgF d (crtR d.files n):=stp_ye _ _
 unfold layT w0
 simp only [e1]
 generalize chgF d (crtR d.files n)=a
 obtain ⟨a1,a2⟩:=a
 simp only []
 by_cases c1:a2=0
 ·subst c1
  simp only [if_true,ne_eq,not_true,if_false]
  unfold w1
  generalize unlS n (appS n x (a1,0))=b
  obtain ⟨b1,b2⟩:=b
  simp only
  by_cases c2:b2=0
  ·subst c2
   have e2:synS n (b1,0)=chgF b1 (synR b1.files n):=stp_ye _ _
   unfold w2 w3
   rw [e2]
   generalize chgF b1 (synR b1.files n)=c
   obtain ⟨c1',c2'⟩:=c
   simp only [ne_eq,not_true,if_false]
   by_cases c3:c2'=0
   ·subst c3; simp
   ·simp [c3]
  ·have e2:synS n (b1,b2)=(b1,b2):=stp_no c2 _
   simp [e2,c2]
 ·have e2:synS n (a1,a2)=(a1,a2):=stp_no c1 _
  simp [e2,c1]
set_option maxRecDepth 20000 in
set_option maxHeartbeats 4000000 in
theorem trun_first {k u:Nat} (d:Dsk) (hd:okN k u d) (hk:k≤700000) (hu:u≤700000000000) (n x:Txt) (hx:x.length≤100000) (X:Sto) (hl:X.segs.length≤1000000) (hm:X.man.ok) :
  call 31 [.agg d.l,.one (.sp 0 4)] [.cells [.f 32 [1],.f 77 [2,4],.f 37 [1],.f 77 [5,7]],.cells [.d (.s n)],.cells [.f 35 [1,3]],.cells [.d (.s x)],.cells [.d (.s n)],.cells [.f 39 [6]],.cells [.d (.l (X.disk.files.map Fil.enc)),.d (.i .i64 X.disk.cap),.d (.b X.disk.armed),.d (.i .i64 X.disk.left),.d (.b X.disk.down),.d (.i .i64 X.ver),.cl (X.segs.map Seg.enc),.d (.i .i64 X.next),.d (.i .i64 X.sure),.d (.i .i64 X.size),.d (.i .u32 X.sum)],.cells [.d (.s n)]]=some (dskV (w0 n x X.man d),[.cells [.f 32 [1],.f 77 [2,4],.f 37 [1],.f 77 [5,7]],.cells [.d (.s n)],.cells [.f 35 [1,3]],.cells [.d (.s x)],.cells [.d (.s n)],.cells [.f 39 [6]],.cells [.d (.l (X.disk.files.map Fil.enc)),.d (.i .i64 X.disk.cap),.d (.b X.disk.armed),.d (.i .i64 X.disk.left),.d (.b X.disk.down),.d (.i .i64 X.ver),.cl (X.segs.map Seg.enc),.d (.i .i64 X.next),.d (.i .i64 X.sure),.d (.i .i64 X.size),.d (.i .u32 X.sum)],.cells [.d (.s n)]]):=by
 obtain ⟨Z,hZ⟩:∃ Z,Z=wT n x X.man 0 d:=⟨_,rfl⟩
 have hZ0:w0 n x X.man d=Z:=hZ.symm
 rw [hZ0]
 clear hZ0
 obtain ⟨⟨zfl,zcp,zar,zlf,zdn⟩,ze⟩:=Z
 simp only [dskV,Dsk.l]
 apply enterS s31 rfl
 obtain ⟨dfl,dcp,dar,dlf,ddn⟩:=d
 (simp (disch:=first|decide|omega|(intros;exact Eq.trans rfl rfl)|simp only[puri]) only [wkf,a31,go_sem,seval,dis])
 refine loop_boxM (m:=8) (σ:=Nat × Dsk) (fun t=>4 - t.1) (fun t=>t.1≤4∧okN (k+2*t.1) (u+100800*t.1) t.2∧wT n x X.man t.1 t.2=(⟨zfl,zcp,zar,zlf,zdn⟩,ze)) (fun t=>[V.one (.p 8 0),V.one (.p 9 0),V.one (.sp 0 4),vi 4,vi t.1])
  (fun t=>[.cells [.f 32 [1],.f 77 [2,4],.f 37 [1],.f 77 [5,7]],.cells [.d (.s n)],.cells [.f 35 [1,3]],.cells [.d (.s x)],.cells [.d (.s n)],.cells [.f 39 [6]],.cells [.d (.l (X.disk.files.map Fil.enc)),.d (.i .i64 X.disk.cap),.d (.b X.disk.armed),.d (.i .i64 X.disk.left),.d (.b X.disk.down),.d (.i .i64 X.ver),.cl (X.segs.map Seg.enc),.d (.i .i64 X.next),.d (.i .i64 X.sure),.d (.i .i64 X.size),.d (.i .u32 X.sum)],.cells [.d (.s n)],.cells [.d (.l (t.2.files.map Fil.enc)),.d (.i .i64 t.2.cap),.d (.b t.2.armed),.d (.i .i64 t.2.left),.d (.b t.2.down)],.cells [.ns,.d (.i .i64 0),.d (.b false),.d (.i .i64 0),.d (.b false)]])
  (fun _=>(V.tup [(true,[.d (.l (zfl.map Fil.enc)),.d (.i .i64 zcp),.d (.b zar),.d (.i .i64 zlf),.d (.b zdn)]),(false,[.d (.i .i64 ze)])],([.cells [.f 32 [1],.f 77 [2,4],.f 37 [1],.f 77 [5,7]],.cells [.d (.s n)],.cells [.f 35 [1,3]],.cells [.d (.s x)],.cells [.d (.s n)],.cells [.f 39 [6]],.cells [.d (.l (X.disk.files.map Fil.enc)),.d (.i .i64 X.disk.cap),.d (.b X.disk.armed),.d (.i .i64 X.disk.left),.d (.b X.disk.down),.d (.i .i64 X.ver),.cl (X.segs.map Seg.enc),.d (.i .i64 X.next),.d (.i .i64 X.sure),.d (.i .i64 X.size),.d (.i .u32 X.sum)],.cells [.d (.s n)]]:Hp))) ?_ (0,⟨dfl,dcp,dar,dlf,ddn⟩) ⟨Nat.zero_le _,hd,hZ.symm⟩ _ _ ?_
 rotate_left
 ·exact hdM
 rintro ⟨i,⟨fl,cp,ar,lf,dn⟩⟩ ⟨h1,h2,h3⟩ R hR
 simp only at h1 h2 h3 ⊢
 have hok:=h2.ok (by omega) (by omega)
 rcases (by omega:i=0∨i=1∨i=2∨i=3∨i=4) with rfl | rfl | rfl | rfl | rfl
 ·have q1:=tr1_spec ⟨fl,cp,ar,lf,dn⟩ hok n
  have kk:=crt_ok (s:=(⟨fl,cp,ar,lf,dn⟩,0)) h2 n
  rw [show crtS n (⟨fl,cp,ar,lf,dn⟩,0)=chgF ⟨fl,cp,ar,lf,dn⟩ (crtR fl n) from stp_ye _ _] at kk
  simp only [wT,w0] at h3
  simp only at q1
  generalize chgF ⟨fl,cp,ar,lf,dn⟩ (crtR fl n)=q at *
  have kq:=kk.up (k':=k+2*(0+1)) (u':=u+100800*(0+1)) (by omega) (by omega)
  obtain ⟨⟨qfl,qcp,qar,qlf,qdn⟩,qe⟩:=q
  simp only [dskV,Dsk.l] at q1 h3
  have g1:∀ b0 b2 b3 b4 b5 b6 b7 b8 b9:Box,callIso call 32 [.agg [.d (.l (fl.map Fil.enc)),.d (.i .i64 cp),.d (.b ar),.d (.i .i64 lf),.d (.b dn)],.one (.p 1 0)] [b0,.cells [.d (.s n)],b2,b3,b4,b5,b6,b7,b8,b9]=some (V.tup [(true,[.d (.l (qfl.map Fil.enc)),.d (.i .i64 qcp),.d (.b qar),.d (.i .i64 qlf),.d (.b qdn)]),(false,[.d (.i .i64 qe)])],[b0,.cells [.d (.s n)],b2,b3,b4,b5,b6,b7,b8,b9]):=fun b0 b2 b3 b4 b5 b6 b7 b8 b9=>iso_at (ids:=[1]) rfl rfl rfl q1 rfl
  by_cases c2:qe=0
  ·subst c2
   rw [if_neg (by simp)] at h3
   have hR':=hR (0+1,⟨qfl,qcp,qar,qlf,qdn⟩) (by simp only []; omega) ⟨by simp only []; omega,kq,h3⟩
   (simp (disch:=first|decide|omega|(intros;exact Eq.trans rfl rfl)|simp only[puri]) only [wkf,a31_0,g1,go_sem,seval,dis,vdr,A.kind,A.xs,optX,A.isN])
   exact hR' _ _ hdM
  ·rw [if_pos c2] at h3
   cases h3
   (simp (disch:=first|decide|omega|(intros;exact Eq.trans rfl rfl)|simp only[puri]) only [wkf,a31_0,g1,c2,go_sem,seval,dis,vdr,A.kind,A.xs,optX,A.isN])
   try simp [trim,V.refs,L.refs,Box.refs,c2]
 ·have q1:=unlA_spec ⟨fl,cp,ar,lf,dn⟩ h2 (by omega) (by omega) n x (by omega)
  have kk:=unl_ok (app_ok (s:=(⟨fl,cp,ar,lf,dn⟩,0)) h2 n x) n
  simp only [wT,w1] at h3
  generalize unlS n (appS n x (⟨fl,cp,ar,lf,dn⟩,0))=q at *
  have kq:=kk.up (k':=k+2*(1+1)) (u':=u+100800*(1+1)) (by omega) (by omega)
  obtain ⟨⟨qfl,qcp,qar,qlf,qdn⟩,qe⟩:=q
  simp only [dskV,Dsk.l] at q1 h3
  have g1:∀ b0 b5 b6 b7 b8 b9:Box,callIso call 77 [.agg [.d (.l (fl.map Fil.enc)),.d (.i .i64 cp),.d (.b ar),.d (.i .i64 lf),.d (.b dn)],.one (.p 2 0),.one (.p 4 0)] [b0,.cells [.d (.s n)],.cells [.f 35 [1,3]],.cells [.d (.s x)],.cells [.d (.s n)],b5,b6,b7,b8,b9]=some (V.tup [(true,[.d (.l (qfl.map Fil.enc)),.d (.i .i64 qcp),.d (.b qar),.d (.i .i64 qlf),.d (.b qdn)]),(false,[.d (.i .i64 qe)])],[b0,.cells [.d (.s n)],.cells [.f 35 [1,3]],.cells [.d (.s x)],.cells [.d (.s n)],b5,b6,b7,b8,b9]):=fun b0 b5 b6 b7 b8 b9=>iso_at (ids:=[2,1,3,4]) rfl rfl rfl q1 rfl
  by_cases c2:qe=0
  ·subst c2
   rw [if_neg (by simp)] at h3
   have hR':=hR (1+1,⟨qfl,qcp,qar,qlf,qdn⟩) (by simp only []; omega) ⟨by simp only []; omega,kq,h3⟩
   (simp (disch:=first|decide|omega|(intros;exact Eq.trans rfl rfl)|simp only[puri]) only [wkf,a31_0,g1,go_sem,seval,dis,vdr,A.kind,A.xs,optX,A.isN])
   exact hR' _ _ hdM
  ·rw [if_pos c2] at h3
   cases h3
   (simp (disch:=first|decide|omega|(intros;exact Eq.trans rfl rfl)|simp only[puri]) only [wkf,a31_0,g1,c2,go_sem,seval,dis,vdr,A.kind,A.xs,optX,A.isN])
   try simp [trim,V.refs,L.refs,Box.refs,c2]
 ·have q1:=tr3_spec ⟨fl,cp,ar,lf,dn⟩ hok n
  have kk:=syn_ok (s:=(⟨fl,cp,ar,lf,dn⟩,0)) h2 n
  rw [show synS n (⟨fl,cp,ar,lf,dn⟩,0)=chgF ⟨fl,cp,ar,lf,dn⟩ (synR fl n) from stp_ye _ _] at kk
  simp only [wT,w2] at h3
  simp only at q1
  generalize chgF ⟨fl,cp,ar,lf,dn⟩ (synR fl n)=q at *
  have kq:=kk.up (k':=k+2*(2+1)) (u':=u+100800*(2+1)) (by omega) (by omega)
  obtain ⟨⟨qfl,qcp,qar,qlf,qdn⟩,qe⟩:=q
  simp only [dskV,Dsk.l] at q1 h3
  have g1:∀ b0 b2 b3 b4 b5 b6 b7 b8 b9:Box,callIso call 37 [.agg [.d (.l (fl.map Fil.enc)),.d (.i .i64 cp),.d (.b ar),.d (.i .i64 lf),.d (.b dn)],.one (.p 1 0)] [b0,.cells [.d (.s n)],b2,b3,b4,b5,b6,b7,b8,b9]=some (V.tup [(true,[.d (.l (qfl.map Fil.enc)),.d (.i .i64 qcp),.d (.b qar),.d (.i .i64 qlf),.d (.b qdn)]),(false,[.d (.i .i64 qe)])],[b0,.cells [.d (.s n)],b2,b3,b4,b5,b6,b7,b8,b9]):=fun b0 b2 b3 b4 b5 b6 b7 b8 b9=>iso_at (ids:=[1]) rfl rfl rfl q1 rfl
  by_cases c2:qe=0
  ·subst c2
   rw [if_neg (by simp)] at h3
   have hR':=hR (2+1,⟨qfl,qcp,qar,qlf,qdn⟩) (by simp only []; omega) ⟨by simp only []; omega,kq,h3⟩
   (simp (disch:=first|decide|omega|(intros;exact Eq.trans rfl rfl)|simp only[puri]) only [wkf,a31_0,g1,go_sem,seval,dis,vdr,A.kind,A.xs,optX,A.isN])
   exact hR' _ _ hdM
  ·rw [if_pos c2] at h3
   cases h3
   (simp (disch:=first|decide|omega|(intros;exact Eq.trans rfl rfl)|simp only[puri]) only [wkf,a31_0,g1,c2,go_sem,seval,dis,vdr,A.kind,A.xs,optX,A.isN])
   try simp [trim,V.refs,L.refs,Box.refs,c2]
 ·have q1:=unlB_spec ⟨fl,cp,ar,lf,dn⟩ h2 (by omega) (by omega) n X hl hm
  have kk:=unl_ok (swap_okN (s:=(⟨fl,cp,ar,lf,dn⟩,0)) h2 X.man) n
  simp only [wT,w3] at h3
  generalize unlS n (swapS X.man (⟨fl,cp,ar,lf,dn⟩,0))=q at *
  have kq:=kk.up (k':=k+2*(3+1)) (u':=u+100800*(3+1)) (by omega) (by omega)
  obtain ⟨⟨qfl,qcp,qar,qlf,qdn⟩,qe⟩:=q
  simp only [dskV,Dsk.l] at q1 h3
  have g1:∀ b0 b1 b2 b3 b4 b8 b9:Box,callIso call 77 [.agg [.d (.l (fl.map Fil.enc)),.d (.i .i64 cp),.d (.b ar),.d (.i .i64 lf),.d (.b dn)],.one (.p 5 0),.one (.p 7 0)] [b0,b1,b2,b3,b4,.cells [.f 39 [6]],.cells [.d (.l (X.disk.files.map Fil.enc)),.d (.i .i64 X.disk.cap),.d (.b X.disk.armed),.d (.i .i64 X.disk.left),.d (.b X.disk.down),.d (.i .i64 X.ver),.cl (X.segs.map Seg.enc),.d (.i .i64 X.next),.d (.i .i64 X.sure),.d (.i .i64 X.size),.d (.i .u32 X.sum)],.cells [.d (.s n)],b8,b9]=some (V.tup [(true,[.d (.l (qfl.map Fil.enc)),.d (.i .i64 qcp),.d (.b qar),.d (.i .i64 qlf),.d (.b qdn)]),(false,[.d (.i .i64 qe)])],[b0,b1,b2,b3,b4,.cells [.f 39 [6]],.cells [.d (.l (X.disk.files.map Fil.enc)),.d (.i .i64 X.disk.cap),.d (.b X.disk.armed),.d (.i .i64 X.disk.left),.d (.b X.disk.down),.d (.i .i64 X.ver),.cl (X.segs.map Seg.enc),.d (.i .i64 X.next),.d (.i .i64 X.sure),.d (.i .i64 X.size),.d (.i .u32 X.sum)],.cells [.d (.s n)],b8,b9]):=fun b0 b1 b2 b3 b4 b8 b9=>iso_at (ids:=[5,6,7]) rfl rfl rfl q1 rfl
  by_cases c2:qe=0
  ·subst c2
   have hR':=hR (3+1,⟨qfl,qcp,qar,qlf,qdn⟩) (by simp only []; omega) ⟨by simp only []; omega,kq,h3⟩
   (simp (disch:=first|decide|omega|(intros;exact Eq.trans rfl rfl)|simp only[puri]) only [wkf,a31_0,g1,go_sem,seval,dis,vdr,A.kind,A.xs,optX,A.isN])
   exact hR' _ _ hdM
  ·cases h3
   (simp (disch:=first|decide|omega|(intros;exact Eq.trans rfl rfl)|simp only[puri]) only [wkf,a31_0,g1,c2,go_sem,seval,dis,vdr,A.kind,A.xs,optX,A.isN])
   try simp [trim,V.refs,L.refs,Box.refs,c2]
 ·simp only [wT] at h3
  cases h3
  (simp (disch:=first|decide|omega|(intros;exact Eq.trans rfl rfl)|simp only[puri]) only [wkf,a31_0,a31,go_sem,seval,dis,vdr,A.kind,A.xs,optX,A.isN])
  try simp [trim,V.refs,L.refs,Box.refs]
def goP (l:List Txt) (s:Dsk × Int):Dsk × Int:=l.foldl (fun s n=>delS n s) s
theorem goP_cons (n:Txt) (l:List Txt) (s:Dsk × Int):goP (n::l) s=goP l (delS n s):=rfl
theorem goP_err (l:List Txt) (s:Dsk × Int) (h:s.2≠0):goP l s=s:=by
 induction l with
 | nil=>rfl
 | cons n l ih=>rw [goP_cons,show delS n s=s from stp_no h _]; exact ih
def rmT (n:Txt):List D:=[.fn 83 [[.s n]]]
set_option maxHeartbeats 2000000 in
theorem trun_data {k u:Nat} (d:Dsk) (hd:okN k u d) (hk:k≤900000) (hu:u≤900000000000) (l:List Txt) (hl:l.length≤1000):call 31 [.agg d.l,vl (l.map rmT)] []=some (dskV (goP l (d,0)),[]):=by
 obtain ⟨Z,hZ⟩:∃ Z,Z=goP l (d,0):=⟨_,rfl⟩
 rw [← hZ]
 obtain ⟨⟨zfl,zcp,zar,zlf,zdn⟩,ze⟩:=Z
 simp only [dskV,Dsk.l]
 apply enterS s31 rfl
 obtain ⟨dfl,dcp,dar,dlf,ddn⟩:=d
 (simp (disch:=first|decide|omega|(intros;exact Eq.trans rfl rfl)|simp only[puri]) only [wkf,a31,go_sem,seval,dis])
 refine loop_boxM (m:=0) (σ:=Nat × Dsk) (fun t=>l.length - t.1) (fun t=>t.1≤l.length∧okN k u t.2∧goP (l.drop t.1) (t.2,0)=(⟨zfl,zcp,zar,zlf,zdn⟩,ze)) (fun t=>[V.one (.p 0 0),V.one (.p 1 0),vl (l.map rmT),vi l.length,vi t.1])
  (fun t=>[.cells [.d (.l (t.2.files.map Fil.enc)),.d (.i .i64 t.2.cap),.d (.b t.2.armed),.d (.i .i64 t.2.left),.d (.b t.2.down)],.cells [.ns,.d (.i .i64 0),.d (.b false),.d (.i .i64 0),.d (.b false)]])
  (fun _=>(V.tup [(true,[.d (.l (zfl.map Fil.enc)),.d (.i .i64 zcp),.d (.b zar),.d (.i .i64 zlf),.d (.b zdn)]),(false,[.d (.i .i64 ze)])],[])) ?_ (0,⟨dfl,dcp,dar,dlf,ddn⟩) ⟨Nat.zero_le _,hd,hZ.symm⟩ _ _ ?_
 rotate_left
 ·exact hdM
 rintro ⟨i,⟨fl,cp,ar,lf,dn⟩⟩ ⟨h1,h2,h3⟩ R hR
 simp only at h1 h2 h3 ⊢
 by_cases c:i < l.length
 ·have hc:(i:Int) < (l.length:Int):=by omega
  rw [List.drop_eq_getElem_cons c,goP_cons] at h3
  have g1:(l.map rmT)[i]?=some [.fn 83 [[.s l[i]]]]:=by rw [List.getElem?_map,List.getElem?_eq_getElem c]; rfl
  generalize l[i]=n at *
  have g2:=trem1_spec ⟨fl,cp,ar,lf,dn⟩ (h2.ok (by omega) (by omega)) n
  have kk:=del_okN (s:=(⟨fl,cp,ar,lf,dn⟩,0)) h2 n
  rw [show delS n (⟨fl,cp,ar,lf,dn⟩,0)=chgF ⟨fl,cp,ar,lf,dn⟩ (delR fl n) from stp_ye _ _] at kk h3
  simp only at g2 h3
  generalize chgF ⟨fl,cp,ar,lf,dn⟩ (delR fl n)=q at *
  obtain ⟨⟨qfl,qcp,qar,qlf,qdn⟩,qe⟩:=q
  simp only [dskV,Dsk.l] at g2 h3
  have g3:∀ H:Hp,callIso call 83 [.agg [.d (.l (fl.map Fil.enc)),.d (.i .i64 cp),.d (.b ar),.d (.i .i64 lf),.d (.b dn)],.one (.ip [.s n])] H=some (V.tup [(true,[.d (.l (qfl.map Fil.enc)),.d (.i .i64 qcp),.d (.b qar),.d (.i .i64 qlf),.d (.b qdn)]),(false,[.d (.i .i64 qe)])],H):=fun H=>callIso_pure rfl g2 rfl
  by_cases c2:qe=0
  ·subst c2
   have hR':=hR (i+1,⟨qfl,qcp,qar,qlf,qdn⟩) (by simp only []; omega) ⟨by simp only []; omega,kk,h3⟩
   (simp (disch:=first|decide|omega|(intros;exact Eq.trans rfl rfl)|simp only[puri]) only [wkf,a31_0,decide_eq_true hc,g1,g3,go_sem,seval,dis,vdr,A.kind,A.xs,optX,A.isN])
   exact hR' _ _ hdM
  ·rw [goP_err _ _ c2] at h3
   cases h3
   (simp (disch:=first|decide|omega|(intros;exact Eq.trans rfl rfl)|simp only[puri]) only [wkf,a31_0,decide_eq_true hc,g1,g3,c2,go_sem,seval,dis,vdr,A.kind,A.xs,optX,A.isN])
   try simp [trim,c2]
 ·have hc:¬ (i:Int) < (l.length:Int):=by omega
  rw [List.drop_eq_nil_of_le (by omega)] at h3
  cases h3
  (simp (disch:=first|decide|omega|(intros;exact Eq.trans rfl rfl)|simp only[puri]) only [wkf,a31_0,a31,decide_eq_false hc,go_sem,seval,dis,vdr,A.kind,A.xs,optX,A.isN])
  try simp [trim]
theorem sum1_spec (x:Txt) (hx:x.length≤1000000):call 29 [vl [[.s x]]] []=some (vk .u32 (sumT x),[]):=by
 have h:=sum_spec [x] (by simp) (fun s hs=>by rw [List.mem_singleton.1 hs]; omega)
 have e:crcSum [x]=crcOn 0#32 x:=rfl
 rw [e] at h
 exact h
def oldN (s:Sto) (k:Nat):List Txt:=(s.segs.take k).map (fun g=>fileN g.base)++(if 0 < s.floor then [snapN s.floor] else [])
theorem dels_go (l:List Seg) (q:Dsk × Int):delsF l q=goP (l.map fun g=>fileN g.base) q:=by
 unfold delsF goP
 rw [List.foldl_map]
theorem old_go (s:Sto) (k:Nat) (q:Dsk × Int):oldT s k q=goP (oldN s k) q:=by
 unfold oldT oldN
 simp only []
 rw [dels_go]
 unfold goP
 rw [List.foldl_append]
 generalize List.foldl (fun s n=>delS n s) q ((s.segs.take k).map fun g=>fileN g.base)=r
 by_cases c:0 < s.floor
 ·rw [if_pos c]
  by_cases c2:r.2=0
  ·rw [if_pos ⟨c2,c⟩]; rfl
  ·rw [if_neg (fun h=>c2 h.1)]
   show r=delS (snapN s.floor) r
   exact (stp_no c2 _).symm
 ·rw [if_neg (fun h=>c h.2),if_neg c]; rfl
theorem unless_spec (n:Txt) (g:Nat) (c1 c2:Txt):call 34 [vs n,.one (.f g [0,1])] [.cells [.d (.s c1)],.cells [.d (.s c2)]]=some (.one (.f 77 [3,2]),[.cells [.d (.s c1)],.cells [.d (.s c2)],.cells [.d (.s n)],.cells [.f g [0,1]]]):=by
 apply enterS s34 rfl
 (simp (disch:=first|decide|omega|(intros;exact Eq.trans rfl rfl)|simp only[puri]) only [wkf,a34,go_sem,seval,dis])
 try simp [trim,V.refs,L.refs,Box.refs]
theorem unless_specX (n:Txt) (g:Nat) (X:Sto):call 34 [vs n,.one (.f g [0])] [.cells [.d (.l (X.disk.files.map Fil.enc)),.d (.i .i64 X.disk.cap),.d (.b X.disk.armed),.d (.i .i64 X.disk.left),.d (.b X.disk.down),.d (.i .i64 X.ver),.cl (X.segs.map Seg.enc),.d (.i .i64 X.next),.d (.i .i64 X.sure),.d (.i .i64 X.size),.d (.i .u32 X.sum)]]=some (.one (.f 77 [2,1]),[.cells [.d (.l (X.disk.files.map Fil.enc)),.d (.i .i64 X.disk.cap),.d (.b X.disk.armed),.d (.i .i64 X.disk.left),.d (.b X.disk.down),.d (.i .i64 X.ver),.cl (X.segs.map Seg.enc),.d (.i .i64 X.next),.d (.i .i64 X.sure),.d (.i .i64 X.size),.d (.i .u32 X.sum)],.cells [.d (.s n)],.cells [.f g [0]]]):=by
 apply enterS s34 rfl
 (simp (disch:=first|decide|omega|(intros;exact Eq.trans rfl rfl)|simp only[puri]) only [wkf,a34,go_sem,seval,dis])
 try simp [trim,V.refs,L.refs,Box.refs]
set_option maxRecDepth 20000 in
set_option maxHeartbeats 8000000 in
theorem trim_spec {k u:Nat} (s:Sto) (h:okS k u s) (hk:k≤500000) (hu:u≤1000000) (keep count:Int) (hb:∀ g∈s.segs,g.base≤s.floor+1000)
  (hst:∀ g∈s.segs,stateP s g.base=stateT s g.base):call 9 [.agg s.l,vi keep,vi count] []=some (stoV (trimT s keep count),[]):=by
 have q0:=ppick_spec s.segs ⟨Nat.le_trans h.len.2 (by omega),fun g hg=>by have:=h.seg g hg; omega⟩ keep count
 have q0':=pickF_lt s.segs keep count
 unfold trimT
 have hcell:s.l=[.d (.l (s.disk.files.map Fil.enc)),.d (.i .i64 s.disk.cap),.d (.b s.disk.armed),.d (.i .i64 s.disk.left),.d (.b s.disk.down),.d (.i .i64 s.ver),.d (.l (s.segs.map Seg.enc)),.d (.i .i64 s.next),.d (.i .i64 s.sure),.d (.i .i64 s.size),.d (.i .u32 s.sum)]:=rfl
 by_cases c0:pickF s.segs keep count=0
 ·rw [if_pos c0]
  rw [c0] at q0
  apply enterS s9 rfl
  rw [hcell]
  simp only [stoV,hcell]
  (simp (disch:=first|decide|omega|(intros;exact Eq.trans rfl rfl)|simp only[puri]) only [wkf,a9,q0,go_sem,seval,dis])
  try simp [trim]
 ·rw [if_neg c0]
  have hn:=q0' c0
  generalize pickF s.segs keep count=n at *
  clear q0'
  have hba:=base_at hn
  have hbo:=base_ok h hn
  have hbm:=hb _ (List.getElem_mem hn)
  have hsm:=hst _ (List.getElem_mem hn)
  rw [← hba.2] at hbm hsm
  have q1:=state_sto s h (by omega) (by omega) (baseF s.segs n) hbo
  rw [hsm] at q1
  have hso:=state_ok s (baseF s.segs n)
  have hxl:=bytes_len hso.1 (by omega)
  have q2:=bytes_prog (stateT s (baseF s.segs n)) (by omega) (by omega) (fun p hp=>(hso.1 p hp).1)
  have q3:=sum1_spec (bytesF (stateT s (baseF s.segs n))) (by omega)
  have q4:=snap_int hbo
  have hsum:=sumT_lt (bytesF (stateT s (baseF s.segs n)))
  have hxm:(trimX s n).segs.length≤1000000:=by show (s.segs.drop n).length≤_; have:=h.len; simp; omega
  have hmo:(trimX s n).man.ok:=⟨by show ((s.segs.drop n).map _).length≤_; rw [List.length_map]; exact hxm,hsum⟩
  have q5:=trun_first s.disk h.dsk (by omega) (by omega) (snapN (baseF s.segs n)) (bytesF (stateT s (baseF s.segs n))) (by omega) (trimX s n) hxm hmo
  have eX:trimX s n={ s with ver:=s.ver+1,segs:=s.segs.drop n,size:=((bytesF (stateT s (baseF s.segs n))).length:Nat),sum:=sumT (bytesF (stateT s (baseF s.segs n))) }:=rfl
  have kl:=lay_ok h.dsk (snapN (baseF s.segs n)) (bytesF (stateT s (baseF s.segs n))) (trimX s n).man
  unfold trimK
  simp only [lay_eq] at kl ⊢
  generalize w0 (snapN (baseF s.segs n)) (bytesF (stateT s (baseF s.segs n))) (trimX s n).man s.disk=w at *
  simp only [old_go]
  rw [eX] at q5 ⊢
  have g0:(s.segs.map Seg.enc)[n]?=some s.segs[n].enc:=by rw [List.getElem?_map,List.getElem?_eq_getElem hn]; rfl
  generalize stateT s (baseF s.segs n)=st at *
  generalize bytesF st=X at *
  rw [hba.2] at *
  generalize s.segs[n]=gn at *
  obtain ⟨gb,gnn,gz⟩:=gn
  simp only [Seg.enc] at *
  generalize snapN gb=N at *
  apply enterS s9 rfl
  have hver:=h.ver
  have hok:okRows 3 (s.segs.map Seg.enc)=true:=okRows_map Seg.len s.segs
  have hslen:s.segs.length≤64:=h.len.2
  have hnl:n≤s.segs.length:=Nat.le_of_lt hn
  have hdr:List.drop n (s.segs.map Seg.enc)=(s.segs.drop n).map Seg.enc:=by rw [List.map_drop]
  have hdr0:((s.segs.drop n).map Seg.enc)[0]?=some [.i .i64 gb,.i .i64 gnn,.i .i64 gz]:=by rw [List.getElem?_map,List.getElem?_drop,Nat.add_zero]; rw [List.getElem?_map] at g0; exact g0
  have hdo:okRows 3 ((s.segs.drop n).map Seg.enc)=true:=okRows_map Seg.len _
  have hdl:((s.segs.drop n).map Seg.enc).length≤64:=by simp; omega
  rw [hcell] at q1
  have f1:∀ b0 b1 b2 b4:Box,isoCall call 34 [vs N,.one (.f 35 [5,3])] [b0,b1,b2,.cells [.d (.s X)],b4,.cells [.d (.s N)]]=some (.one (.f 77 [7,6]),[b0,b1,b2,.cells [.d (.s X)],b4,.cells [.d (.s N)],.cells [.d (.s N)],.cells [.f 35 [5,3]]]):=fun b0 b1 b2 b4 =>
   isoc_at (ids:=[5,3]) rfl rfl rfl (iso_at (ids:=[0,1]) rfl rfl rfl (unless_spec N 35 N X) rfl) rfl
  have f2':=unless_specX N 39 (trimX s n)
  obtain ⟨⟨sfl,scp,sar,slf,sdn⟩,ver,segs,next,sure,size,sum⟩:=s
  obtain ⟨⟨wfl,wcp,war,wlf,wdn⟩,we⟩:=w
  rw [eX] at f2'
  simp only [dskV,Dsk.l,stoV,hcell] at f2' q5 q1 kl hver hslen hnl hok hdr hdr0 hdo hdl h hbo ⊢
  have f2:∀ b0 b1 b3 b4 b5 b6 b7:Box,isoCall call 34 [vs N,.one (.f 39 [2])] [b0,b1,.cells [.d (.l (sfl.map Fil.enc)),.d (.i .i64 scp),.d (.b sar),.d (.i .i64 slf),.d (.b sdn),.d (.i .i64 (ver+1)),.cl ((segs.drop n).map Seg.enc),.d (.i .i64 next),.d (.i .i64 sure),.d (.i .i64 X.length),.d (.i .u32 (sumT X))],b3,b4,b5,b6,b7]=some (.one (.f 77 [9,8]),[b0,b1,.cells [.d (.l (sfl.map Fil.enc)),.d (.i .i64 scp),.d (.b sar),.d (.i .i64 slf),.d (.b sdn),.d (.i .i64 (ver+1)),.cl ((segs.drop n).map Seg.enc),.d (.i .i64 next),.d (.i .i64 sure),.d (.i .i64 X.length),.d (.i .u32 (sumT X))],b3,b4,b5,b6,b7,.cells [.d (.s N)],.cells [.f 39 [2]]]):=fun b0 b1 b3 b4 b5 b6 b7 =>
   isoc_at (ids:=[2]) rfl rfl rfl (iso_at (ids:=[0]) rfl rfl rfl f2' rfl) rfl
  have f4:∀ b0 b1 b4:Box,isoBsp 4 [.nf,.nf,.nf,.nf] [(0,1,.one (.f 32 [5])),(1,1,.one (.f 77 [7,6])),(2,1,.one (.f 37 [5])),(3,1,.one (.f 77 [9,8]))] [b0,b1,.cells [.d (.l (sfl.map Fil.enc)),.d (.i .i64 scp),.d (.b sar),.d (.i .i64 slf),.d (.b sdn),.d (.i .i64 (ver+1)),.cl ((segs.drop n).map Seg.enc),.d (.i .i64 next),.d (.i .i64 sure),.d (.i .i64 X.length),.d (.i .u32 (sumT X))],.cells [.d (.s X)],b4,.cells [.d (.s N)],.cells [.d (.s N)],.cells [.f 35 [5,3]],.cells [.d (.s N)],.cells [.f 39 [2]]]=some (V.one (.sp 10 4),[b0,b1,.cells [.d (.l (sfl.map Fil.enc)),.d (.i .i64 scp),.d (.b sar),.d (.i .i64 slf),.d (.b sdn),.d (.i .i64 (ver+1)),.cl ((segs.drop n).map Seg.enc),.d (.i .i64 next),.d (.i .i64 sure),.d (.i .i64 X.length),.d (.i .u32 (sumT X))],.cells [.d (.s X)],b4,.cells [.d (.s N)],.cells [.d (.s N)],.cells [.f 35 [5,3]],.cells [.d (.s N)],.cells [.f 39 [2]],.cells [.f 32 [5],.f 77 [7,6],.f 37 [5],.f 77 [9,8]]]):=fun b0 b1 b4 =>
   isob_at (ids:=[5,7,3,6,9,2,8]) rfl rfl rfl rfl
  have f3:∀ b0 b1 b4:Box,isoCall call 31 [.agg [.d (.l (sfl.map Fil.enc)),.d (.i .i64 scp),.d (.b sar),.d (.i .i64 slf),.d (.b sdn)],.one (.sp 10 4)] [b0,b1,.cells [.d (.l (sfl.map Fil.enc)),.d (.i .i64 scp),.d (.b sar),.d (.i .i64 slf),.d (.b sdn),.d (.i .i64 (ver+1)),.cl ((segs.drop n).map Seg.enc),.d (.i .i64 next),.d (.i .i64 sure),.d (.i .i64 X.length),.d (.i .u32 (sumT X))],.cells [.d (.s X)],b4,.cells [.d (.s N)],.cells [.d (.s N)],.cells [.f 35 [5,3]],.cells [.d (.s N)],.cells [.f 39 [2]],.cells [.f 32 [5],.f 77 [7,6],.f 37 [5],.f 77 [9,8]]]=some (V.tup [(true,[.d (.l (wfl.map Fil.enc)),.d (.i .i64 wcp),.d (.b war),.d (.i .i64 wlf),.d (.b wdn)]),(false,[.d (.i .i64 we)])],[b0,b1,.cells [.d (.l (sfl.map Fil.enc)),.d (.i .i64 scp),.d (.b sar),.d (.i .i64 slf),.d (.b sdn),.d (.i .i64 (ver+1)),.cl ((segs.drop n).map Seg.enc),.d (.i .i64 next),.d (.i .i64 sure),.d (.i .i64 X.length),.d (.i .u32 (sumT X))],.cells [.d (.s X)],b4,.cells [.d (.s N)],.cells [.d (.s N)],.cells [.f 35 [5,3]],.cells [.d (.s N)],.cells [.f 39 [2]],.cells [.f 32 [5],.f 77 [7,6],.f 37 [5],.f 77 [9,8]]]):=fun b0 b1 b4 =>
   isoc_at (ids:=[10,5,7,3,6,9,2,8]) rfl rfl rfl (iso_at (ids:=[0,1,2,3,4,5,6,7]) rfl rfl rfl q5 rfl) rfl
  clear f2' q5
  by_cases c1:we=0
  ·subst c1
   rw [if_neg (by simp)]
   have qf:call 44 [.agg [.d (.l (sfl.map Fil.enc)),.d (.i .i64 scp),.d (.b sar),.d (.i .i64 slf),.d (.b sdn),.d (.i .i64 ver),.d (.l (segs.map Seg.enc)),.d (.i .i64 next),.d (.i .i64 sure),.d (.i .i64 size),.d (.i .u32 sum)]] []=some (vi (Sto.floor ⟨⟨sfl,scp,sar,slf,sdn⟩,ver,segs,next,sure,size,sum⟩),[]):=floor_spec ⟨⟨sfl,scp,sar,slf,sdn⟩,ver,segs,next,sure,size,sum⟩
   have hfo:=floor_ok h
   have qn:=snap_int hfo
   have hseg:=h.seg
   have hnm:oldN ⟨⟨sfl,scp,sar,slf,sdn⟩,ver,segs,next,sure,size,sum⟩ n=(segs.take n).map (fun g=>fileN g.base)++(if 0 < Sto.floor ⟨⟨sfl,scp,sar,slf,sdn⟩,ver,segs,next,sure,size,sum⟩ then [snapN (Sto.floor ⟨⟨sfl,scp,sar,slf,sdn⟩,ver,segs,next,sure,size,sum⟩)] else []):=rfl
   obtain ⟨NS,hNS⟩:∃ NS,NS=oldN ⟨⟨sfl,scp,sar,slf,sdn⟩,ver,segs,next,sure,size,sum⟩ n:=⟨_,rfl⟩
   rw [← hNS]
   rw [hnm] at hNS
   clear hnm
   generalize Sto.floor ⟨⟨sfl,scp,sar,slf,sdn⟩,ver,segs,next,sure,size,sum⟩=fl' at *
   generalize snapN fl'=FN at *
   have hnl3:NS.length≤1000:=by
    rw [hNS,List.length_append,List.length_map,List.length_take]
    split <;> simp <;> omega
   have r2:=trun_data ⟨wfl,wcp,war,wlf,wdn⟩ kl (by omega) (by omega) NS hnl3
   generalize goP NS (⟨wfl,wcp,war,wlf,wdn⟩,0)=z at *
   obtain ⟨⟨zfl,zcp,zar,zlf,zdn⟩,ze⟩:=z
   simp only [Dsk.l,dskV] at r2 ⊢
   have htkn:List.take n (segs.map Seg.enc)=(segs.take n).map Seg.enc:=by rw [List.map_take]
   have hol:(segs.take n).length≤64:=by rw [List.length_take]; omega
   have hom:∀ g∈segs.take n,0≤g.base∧g.base≤1099511627776:=fun g hg=>(hseg g (List.mem_of_mem_take hg)).1
   have hlen2:n=(segs.take n).length:=by rw [List.length_take]; omega
   obtain ⟨OL,hOL⟩:∃ OL,OL=segs.take n:=⟨_,rfl⟩
   rw [← hOL] at htkn hol hom hNS hlen2
   clear hOL
   (simp (disch:=first|decide|omega|(intros;exact Eq.trans rfl rfl)|simp only[puri]) only [wkf,a9,q0,c0,hok,hnl,hdr,hdr0,hdo,q1,q2,↓iso_callz_e,czK_sl,czR_some,q3,q4,↓isoN2_e,↓isoC2_e,↓isoB4_e,f1,f2,f4,f3,htkn,List.length_map,go_sem,seval,dis,vdr,A.kind,A.xs,optX,A.isN])
   have hfin:(Sto.l ⟨⟨zfl,zcp,zar,zlf,zdn⟩,ver+1,segs.drop n,next,sure,(X.length:Nat),sumT X⟩)=[.d (.l (zfl.map Fil.enc)),.d (.i .i64 zcp),.d (.b zar),.d (.i .i64 zlf),.d (.b zdn),.d (.i .i64 (ver+1)),.d (.l ((segs.drop n).map Seg.enc)),.d (.i .i64 next),.d (.i .i64 sure),.d (.i .i64 X.length),.d (.i .u32 (sumT X))]:=rfl
   rw [hfin]
   clear hfin f1 f2 f3 f4
   refine loop_boxM (m:=0) (σ:=Nat) (fun i=>OL.length - i) (fun i=>i≤OL.length) (fun i=>[V.one (.p 0 0),V.one (.p 1 0),V.one (.p 2 0),V.one (.p 3 0),V.one (.sl 4 1 0 (OL.take i).length),vl (OL.map Seg.enc),vi OL.length,vi i])
    (fun i=>[.cells [.d (.l (sfl.map Fil.enc)),.d (.i .i64 scp),.d (.b sar),.d (.i .i64 slf),.d (.b sdn),.d (.i .i64 ver),.d (.l (segs.map Seg.enc)),.d (.i .i64 next),.d (.i .i64 sure),.d (.i .i64 size),.d (.i .u32 sum)],.cells [.ns,.d (.i .i64 0),.d (.b false),.d (.i .i64 0),.d (.b false),.d (.i .i64 0),.ns,.d (.i .i64 0),.d (.i .i64 0),.d (.i .i64 0),.d (.i .u32 0)],.cells [.d (.l (sfl.map Fil.enc)),.d (.i .i64 scp),.d (.b sar),.d (.i .i64 slf),.d (.b sdn),.d (.i .i64 (ver+1)),.cl ((segs.drop n).map Seg.enc),.d (.i .i64 next),.d (.i .i64 sure),.d (.i .i64 X.length),.d (.i .u32 (sumT X))],.cells [.d (.l (wfl.map Fil.enc)),.d (.i .i64 wcp),.d (.b war),.d (.i .i64 wlf),.d (.b wdn)],.arr 1 ((OL.take i).map (fun g=>rmT (fileN g.base))) 0])
    (fun _=>(V.tup [(true,[.d (.l (zfl.map Fil.enc)),.d (.i .i64 zcp),.d (.b zar),.d (.i .i64 zlf),.d (.b zdn),.d (.i .i64 (ver+1)),.d (.l ((segs.drop n).map Seg.enc)),.d (.i .i64 next),.d (.i .i64 sure),.d (.i .i64 X.length),.d (.i .u32 (sumT X))]),(false,[.d (.i .i64 ze)])],([]:Hp))) ?_ 0 (Nat.zero_le _) _ _ ?_
   rotate_left
   ·exact hdM
   clear q1 q2 q3 q4 q0
   intro i hi R hR
   by_cases c4:i < OL.length
   ·have hc4:(i:Int) < (OL.length:Int):=by omega
    have g1:(OL.map Seg.enc)[i]?=some [.i .i64 OL[i].base,.i .i64 OL[i].n,.i .i64 OL[i].size]:=by
     rw [List.getElem?_map,List.getElem?_eq_getElem c4]; rfl
    have g2:=seg_int (hom _ (List.getElem_mem c4))
    have hR':=hR (i+1) (by omega) (by omega)
    rw [List.take_succ_eq_append_getElem c4,List.map_append,List.length_append,List.map_cons,List.map_nil,List.length_cons,List.length_nil] at hR'
    have hrl:((OL.take i).map (fun g=>rmT (fileN g.base))).length=(OL.take i).length:=by simp
    have hrl2:(OL.take i).length≤64:=by rw [List.length_take]; omega
    generalize (OL.take i).map (fun g=>rmT (fileN g.base))=RQ at *
    generalize (OL.take i).length=RL at *
    have g3:=trem_spec (fileN OL[i].base)
    simp only [rmT] at hR'
    generalize fileN OL[i].base=FB at *
    generalize OL[i]=sg at *
    obtain ⟨sb,sn,sz⟩:=sg
    simp only at g1 g2
    have g4:∀ b0 b1 b2 b3 b4 b5:Box,callIso call 42 [vs FB] [b0,b1,b2,b3,b4,b5]=some (.one (.f 83 [6]),[b0,b1,b2,b3,b4,b5,.cells [.d (.s FB)]]):=fun b0 b1 b2 b3 b4 b5=>iso_at (ids:=[]) rfl rfl rfl g3 rfl
    (simp (disch:=first|decide|omega|(intros;exact Eq.trans rfl rfl)|simp only[puri]) only [wkf,a9_0,decide_eq_true hc4,g1,g2,g4,fnLs,fzCaps,hrl,go_sem,seval,dis,vdr,A.kind,A.xs,optX,A.isN])
    exact hR' _ _ hdM
   ·have hc4:¬ (i:Int) < (OL.length:Int):=by omega
    have htk:OL.take i=OL:=List.take_of_length_le (by omega)
    rw [htk]
    have hnt:List.take NS.length (NS.map rmT)=NS.map rmT:=List.take_of_length_le (by simp)
    have hrl:(OL.map (fun g=>rmT (fileN g.base))).length=OL.length:=by simp
    by_cases c5:0 < fl'
    ·rw [if_pos c5] at hNS
     have hrw:OL.map (fun g=>rmT (fileN g.base))++[[.fn 83 [[.s FN]]]]=NS.map rmT:=by rw [hNS]; simp [rmT]
     have hnl2:OL.length+1=NS.length:=by rw [hNS]; simp
     have g3:=trem_spec FN
     generalize OL.map (fun g=>rmT (fileN g.base))=RQ at *
     have g4:∀ b0 b1 b2 b3 b4:Box,callIso call 42 [vs FN] [b0,b1,b2,b3,b4]=some (.one (.f 83 [5]),[b0,b1,b2,b3,b4,.cells [.d (.s FN)]]):=fun b0 b1 b2 b3 b4=>iso_at (ids:=[]) rfl rfl rfl g3 rfl
     (simp (disch:=first|decide|omega|(intros;exact Eq.trans rfl rfl)|simp only[puri]) only [wkf,a9_0,a9,decide_eq_false hc4,qf,qn,decide_eq_true c5,g4,fnLs,fzCaps,hrl,hrw,hnl2,hnt,r2,go_sem,seval,dis,vdr,A.kind,A.xs,optX,A.isN])
     try simp [trim]
    ·rw [if_neg c5,List.append_nil] at hNS
     have hrw:OL.map (fun g=>rmT (fileN g.base))=NS.map rmT:=by rw [hNS]; simp
     have hnl2:OL.length=NS.length:=by rw [hNS]; simp
     rw [hrw] at hrl ⊢
     rw [show (.sl 4 1 0 OL.length:L)=.sl 4 1 0 NS.length by rw [hnl2]]
     (simp (disch:=first|decide|omega|(intros;exact Eq.trans rfl rfl)|simp only[puri]) only [wkf,a9_0,a9,decide_eq_false hc4,qf,decide_eq_false c5,hnt,r2,go_sem,seval,dis,vdr,A.kind,A.xs,optX,A.isN])
     try simp [trim]
  ·rw [if_pos c1]
   (simp (disch:=first|decide|omega|(intros;exact Eq.trans rfl rfl)|simp only[puri]) only [wkf,a9,q0,c0,hok,hnl,hdr,hdr0,hdo,q1,q2,↓iso_callz_e,czK_sl,czR_some,q3,q4,↓isoN2_e,↓isoC2_e,↓isoB4_e,f1,f2,f4,f3,c1,go_sem,seval,dis,vdr,A.kind,A.xs,optX,A.isN])
   try simp [trim,c1,Sto.l,Dsk.l]
theorem chg_down {d:Dsk} (h:d.down=true) (r:List Fil × Int):chgF d r=(d,10):=by unfold chgF; rw [if_pos h]
theorem Out.dn {d:Dsk} (hs:srt d.files) (h:d.down=true) (X:List Txt) (G:FM) (g:Option FM):Out d (d,10) X G g:=⟨Dk.refl d,hs,.inr (.inr ⟨rfl,h,fun _ _=>rfl⟩)⟩
theorem Out.eq {d:Dsk} {r:Dsk × Int} {X:List Txt} {G G':FM} {g g':Option FM} (h:Out d r X G g) (h1:G=G') (h2:g=g'):Out d r X G' g':=h1 ▸ h2 ▸ h
theorem n110 (n:Txt) (h:2≤n.length):n≠[110]:=fun e=>by rw [e] at h; simp at h
theorem pair_eq {r:Dsk × Int} (h:r.2=0):r=(r.1,0):=by rw [← h]
def manV (m:Man):Option (Txt × Int):=some (manText m,((manText m).length:Nat))
theorem swap_out {d:Dsk} (hs:srt d.files) {m:Man} (hm:manB m=true) (hn:d.down=false→fm d.files [110]=none):Out d (swapS m (d,0)) [[110]] (up (fm d.files) [109] (manV m)) (some (fm d.files)):=by
 have hp:manPut m=(manText m,0):=by unfold manPut; rw [if_pos hm]
 by_cases hd:d.down=true
 ·have e:swapS m (d,0)=(d,10):=by
   have e1:∀ s:Dsk × Int,s=(d,0)∨s=(d,10)→crtS [110] s=(d,10):=by
    rintro s (rfl | rfl)
    ·show chgF d _=_
     exact chg_down hd _
    ·rfl
   have e2:(if (readF d.files [110]).2=0 then delS [110] (d,0) else (d,0))=(d,0)∨(if (readF d.files [110]).2=0 then delS [110] (d,0) else (d,0))=(d,10):=by
    split
    ·exact .inr (chg_down hd _)
    ·exact .inl rfl
   unfold swapS
   simp only [hp,if_true]
   rw [e1 _ e2]
   try rfl
  rw [e]
  exact .dn hs hd _ _ _
 ·have hn:=hn (by simpa using hd)
  have hr:(readF d.files [110]).2≠0:=by rw [fm_read hs,hn]; decide
  have e:swapS m (d,0)=if (chgF d (crtR d.files [110])).2=0 then renS [110] [109] (synS [110] (unlS [110] (appS [110] (manText m) (chgF d (crtR d.files [110]))))) else chgF d (crtR d.files [110]):=by
   have e1:crtS [110] (d,0)=chgF d (crtR d.files [110]):=stp_ye _ _
   unfold swapS
   simp only [hp,if_true,if_neg hr,e1]
   by_cases h:(chgF d (crtR d.files [110])).2=0
   ·rw [if_neg (by simp [h]),if_pos h]
   ·rw [if_pos h,if_neg h]
  rw [e]
  refine Out.seq (crt_out hs (by decide) hn) (g1:=none) (g2:=some (fm d.files)) ?_ ?_ (by simp) (X2:=[[110]]) (by simp) (by simp) (by simp)
  ·intro h0 hd1 hf1 hs1
   rw [pair_eq h0]
   generalize (chgF d (crtR d.files [110])).1=d1 at *
   have ea:appS [110] (manText m) (d1,0)=chgF d1 (appR d1.files d1.cap [110] (manText m)):=stp_ye _ _
   rw [ea]
   have h1:=app_out hs1 (manText m) (n:=[110]) (v:=([],0)) (by rw [hf1,up_at])
   have h2:=h1.unl (n:=[110]) (v:=([],0)) (by rw [hf1,up_at]) (fun _ _=>rfl)
   have h3:=Out.seq (X:=[[110]]) (g:=some (fm d.files)) h2 (r2:=synS [110] ((unlS [110] (chgF d1 (appR d1.files d1.cap [110] (manText m)))).1,0)) (X2:=[]) (G2:=up (up (fm d1.files) [110] (some ([]++manText m,0))) [110] (manV m)) (g2:=none)
    (fun h0 hd2 hf2 hs2=>(by
     have:=syn_out hs2 (n:=[110]) (v:=([]++manText m,0)) (by rw [hf2,up_at])
     rw [hf2] at this
     exact this)) (fun n hn=>up_ne _ _ (by simpa using hn)) (by simp) (by simp)
    (fun q hq=>by cases hq; rw [hf1,up_up,up_self hn]) (by simp)
   have e3:synS [110] (unlS [110] (chgF d1 (appR d1.files d1.cap [110] (manText m))))=if (unlS [110] (chgF d1 (appR d1.files d1.cap [110] (manText m)))).2=0 then synS [110] ((unlS [110] (chgF d1 (appR d1.files d1.cap [110] (manText m)))).1,0) else unlS [110] (chgF d1 (appR d1.files d1.cap [110] (manText m))):=by
    split
    ·rename_i h; rw [← pair_eq h]
    ·rename_i h; exact stp_no h _
   rw [← e3] at h3
   generalize synS [110] (unlS [110] (chgF d1 (appR d1.files d1.cap [110] (manText m))))=w at *
   have h4:=Out.seq (X:=[[110]]) (g:=some (fm d.files)) h3 (r2:=chgF w.1 (renR w.1.files [110] [109])) (X2:=[]) (G2:=up (fm d.files) [109] (manV m)) (g2:=none)
    (fun h0 hd2 hf2 hs2=>(by
     have:=ren_out hs2 (a:=[110]) (b:=[109]) (by decide) (v:=(manText m,((manText m).length:Nat))) (by rw [hf2,up_at]; rfl)
     refine this.eq ?_ rfl
     rw [hf2,hf1,up_up,up_up,up_up,up_self hn]
     rfl)) (fun n hn=>by rw [up_up]; exact up_ne _ _ (by simpa using hn)) (by simp) (by simp) (by simp) (by simp)
   exact h4
  ·intro n hn
   exact up_ne _ _ (by simpa using hn)
theorem crt_swap_out {d:Dsk} (hs:srt d.files) {n:Txt} {m:Man} (hm:manB m=true) (hnm:namedF n=true) (hn2:n≠[110]) (h1:d.down=false→fm d.files [110]=none) (h2:d.down=false→fm d.files n=none) :
  Out d (if (crtS n (d,0)).2=0 then unlS n (swapS m (crtS n (d,0))) else crtS n (d,0)) [n,[110]] (up (up (fm d.files) n (some ([],0))) [109] (manV m)) (some (fm d.files)):=by
 have e1:crtS n (d,0)=chgF d (crtR d.files n):=stp_ye _ _
 rw [e1]
 by_cases hd:d.down=true
 ·rw [chg_down hd,if_neg (by simp)]
  exact .dn hs hd _ _ _
 ·have hd:d.down=false:=by simpa using hd
  refine Out.seq (crt_out hs hnm (h2 hd)) (g1:=none) (g2:=some (fm d.files)) ?_ ?_ (by simp) (X2:=[[110]]) (by simp) (by simp) (by simp)
  ·intro h0 hd1 hf1 hs1
   rw [pair_eq h0]
   generalize (chgF d (crtR d.files n)).1=d1 at *
   have h3:=swap_out hs1 hm (fun _=>by rw [hf1,up_ne _ _ (fun e=>hn2 e.symm)]; exact h1 hd)
   have h4:=h3.unl (n:=n) (v:=([],0)) (by rw [hf1,up_at]) (fun _ _=>rfl)
   rw [hf1,up_up,up_self (h2 hd)] at h4
   exact h4
  ·intro k hk
   exact up_ne _ _ (fun e=>hk (by simp [e]))
theorem lay_out {d:Dsk} (hs:srt d.files) {n x:Txt} {m:Man} (hm:manB m=true) (hnm:namedF n=true) (hn2:n≠[110]) (h1:d.down=false→fm d.files [110]=none) (h2:d.down=false→fm d.files n=none) :
  Out d (layT d n x m) [n,[110]] (up (up (fm d.files) n (some (x,(x.length:Nat)))) [109] (manV m)) (some (fm d.files)):=by
 have e1:crtS n (d,0)=chgF d (crtR d.files n):=stp_ye _ _
 unfold layT
 simp only [e1]
 by_cases hd:d.down=true
 ·rw [chg_down hd]
  have e2:synS n (d,10)=(d,10):=rfl
  simp only [e2]
  exact .dn hs hd _ _ _
 ·have hd:d.down=false:=by simpa using hd
  have k1:=Out.seq (X:=[n]) (g:=some (fm d.files)) (crt_out hs hnm (h2 hd)) (r2:=unlS n (appS n x (chgF d (crtR d.files n)))) (G2:=up (fm d.files) n (some (x,0))) (g2:=some (fm d.files)) (X2:=[]) (by
   intro h0 hd1 hf1 hs1
   rw [pair_eq h0]
   generalize (chgF d (crtR d.files n)).1=d1 at *
   have ea:appS n x (d1,0)=chgF d1 (appR d1.files d1.cap n x):=stp_ye _ _
   rw [ea]
   have h3:=(app_out hs1 x (n:=n) (v:=([],0)) (by rw [hf1,up_at])).unl (n:=n) (v:=([],0)) (by rw [hf1,up_at]) (fun _ _=>rfl)
   rw [hf1,up_up,up_up,up_self (h2 hd)] at h3
   exact h3) (fun k hk=>up_ne _ _ (by simpa using hk)) (by simp) (by simp) (by simp) (by simp)
  generalize (if (chgF d (crtR d.files n)).2=0 then unlS n (appS n x (chgF d (crtR d.files n))) else chgF d (crtR d.files n))=b at *
  have k2:=Out.seq (X:=[n]) (g:=some (fm d.files)) k1 (r2:=chgF b.1 (synR b.1.files n)) (G2:=up (fm d.files) n (some (x,(x.length:Nat)))) (g2:=none) (X2:=[]) (by
   intro h0 hd1 hf1 hs1
   have:=syn_out hs1 (n:=n) (v:=(x,0)) (by rw [hf1,up_at])
   rw [hf1,up_up] at this
   exact this) (fun k hk=>up_ne _ _ (by simpa using hk)) (by simp) (by simp) (by simp) (by simp)
  have e3:(if b.2=0 then chgF b.1 (synR b.1.files n) else b)=synS n b:=rfl
  rw [e3] at k2
  generalize synS n b=c at *
  refine Out.seq (X:=[n,[110]]) k2 (g:=some (fm d.files)) (g2:=some (fm d.files)) (X2:=[[110]]) ?_ ?_ (by simp) (by simp) (by simp) (by simp)
  ·intro h0 hd1 hf1 hs1
   rw [pair_eq h0]
   have h3:=swap_out hs1 hm (fun _=>by rw [hf1,up_ne _ _ (fun e=>hn2 e.symm)]; exact h1 hd)
   have h4:=h3.unl (n:=n) (v:=(x,((x.length:Nat):Int))) (by rw [hf1,up_at]) (fun _ _=>rfl)
   rw [hf1,up_up,up_self (h2 hd)] at h4
   exact h4
  ·intro k hk
   exact up_ne _ _ (fun e=>hk (by simp [e]))
def rmv (l:List Txt) (F:FM):FM:=fun k=>if k∈l then none else F k
theorem goP_out:∀ (l:List Txt) (d:Dsk),srt d.files→l.Nodup→d.down=false→(∀ n∈l,fm d.files n≠none)→Out d (goP l (d,0)) l (rmv l (fm d.files)) none
 | [],d,hs,_,hd,_=>⟨Dk.refl d,hs,.inl ⟨rfl,hd,by funext k; simp [rmv,goP]⟩⟩
 | n::l,d,hs,hn,hd,h=>by
  have hn:=List.nodup_cons.1 hn
  obtain ⟨v,hv⟩:=Option.ne_none_iff_exists'.1 (h n (by simp))
  have e1:delS n (d,0)=chgF d (delR d.files n):=stp_ye _ _
  rw [goP_cons,e1]
  have h1:=del_out hs hv
  have e2:goP l (chgF d (delR d.files n))=if (chgF d (delR d.files n)).2=0 then goP l ((chgF d (delR d.files n)).1,0) else chgF d (delR d.files n):=by
   split
   ·rename_i h0; rw [← pair_eq h0]
   ·rename_i h0; exact goP_err l _ h0
  rw [e2]
  refine Out.seq h1 (X2:=l) (g2:=none) ?_ ?_ (by simp) (fun k hk=>by simp [hk]) (by simp) (by simp)
  ·intro h0 hd1 hf1 hs1
   have h2:=goP_out l (chgF d (delR d.files n)).1 hs1 hn.2 hd1 (fun k hk=>by
    rw [hf1,up_ne _ _ (fun e=>hn.1 (by rw [← e]; exact hk))]; exact h k (by simp [hk]))
   rw [hf1] at h2
   refine h2.eq ?_ rfl
   funext k
   unfold rmv
   by_cases c:k=n
   ·simp [c,hn.1,up_at]
   ·by_cases c2:k∈l
    ·rw [if_pos c2,if_pos (List.mem_cons_of_mem _ c2)]
    ·rw [if_neg c2,if_neg (by simp [c,c2]),up_ne _ _ c]
  ·intro k hk
   exact up_ne _ _ (fun e=>hk (by simp [e]))
variable {f:Int} {S:Txt} {l0:List Pr} {s:Sto} {M:List SR} {g:Seg} {l:List Rec}
theorem snapN_len (n:Int):(snapN n).length=14:=by simp [snapN,nameF]
theorem fileN_len (n:Int):(fileN n).length=14:=by simp [fileN,nameF]
theorem snap_file (a b:Int):snapN a≠fileN b:=fun h=>by
 have:(snapN a)[0]?=(fileN b)[0]?:=by rw [h]
 simp [snapN,fileN,nameF] at this
theorem n109 (n:Txt) (h:2≤n.length):n≠[109]:=fun e=>by rw [e] at h; simp at h
theorem nameF_digA {c:UInt8} {a b:Nat} (h:nameF c a=nameF c b):nameF 115 a=nameF 115 b:=by
 unfold nameF at h ⊢
 rw [(List.cons.inj h).2]
theorem snapN_inj {a b:Int} (ha:0≤a∧a≤1099511627776) (hb:0≤b∧b≤1099511627776) (h:snapN a=snapN b):a=b:=fileN_inj ha hb (nameF_digA h)
theorem namedN (n:Int):namedF (fileN n)=true:=by
 have:=fileN_len n
 have h2:fileN n≠[]:=fun e=>by rw [e] at this; simp at this
 simp [namedF,h2,this]
theorem namedS (n:Int):namedF (snapN n)=true:=by
 have:=snapN_len n
 have h2:snapN n≠[]:=fun e=>by rw [e] at this; simp at this
 simp [namedF,h2,this]
def rel (f:Int) (s:Sto) (n:Txt):Prop:=n=[109]∨(∃ g∈s.segs,n=fileN g.base)∨(0 < f∧n=snapN f)
theorem rel_110 (f:Int) (s:Sto):¬ rel f s [110]:=by
 rintro (h | ⟨g,_,h⟩ | ⟨_,h⟩)
 ·simp at h
 ·exact n110 _ (by rw [fileN_len]; decide) h.symm
 ·exact n110 _ (by rw [snapN_len]; decide) h.symm
def Snp (f:Int) (S:Txt) (l0:List Pr) (s:Sto):Prop :=
 (f=0∧S=[]∧l0=[]∧s.size=0∧s.sum=0)∨(0 < f∧fm s.disk.files (snapN f)=some (S,((S.length:Nat):Int))∧parseF S=some l0∧s.size=((S.length:Nat):Int)∧s.sum=sumT S)
structure W (f:Int) (S:Txt) (l0:List Pr) (s:Sto) (M:List SR) (g:Seg) (l:List Rec):Prop where
 inv:Inv f s M g l
 snp:Snp f S l0 s
 man:fm s.disk.files [109]=manV s.man
 right:manB s.man=true
 full:∀ p∈M,fm s.disk.files (fileN p.1.base)=some (rowS p.2,(((rowS p.2).length:Nat):Int))
 last:∃ q:Nat,fm s.disk.files (fileN g.base)=some (rowS l,((q:Nat):Int))∧(rowS (l.take (s.sure - g.base).toNat)).length≤q∧q≤(rowS l).length
 lo:g.base≤s.sure
 only:s.disk.down=false→∀ n,fm s.disk.files n≠none→rel f s n
theorem W.mem (h:W f S l0 s M g l):∀ p∈M++[(g,l)],p.1∈s.segs:=by
 intro p hp
 rw [h.inv.segs]
 rcases List.mem_append.1 hp with hp | hp
 ·exact List.mem_append_left _ (List.mem_map_of_mem hp)
 ·rw [List.mem_singleton.1 hp]; simp
theorem W.keep (h:W f S l0 s M g l) (hs:srt s.disk.files) {d:Dsk} (hs':srt d.files) (hk:∀ n,rel f s n→fm d.files n=fm s.disk.files n)
  (hd:d.down=true∨(fm d.files=fm s.disk.files∧s.disk.down=false)):W f S l0 { s with disk:=d } M g l:=by
 have hm:=h.mem
 refine ⟨h.inv.disk d fun p hp hh=>?_,?_,?_,h.right,fun p hp=>?_,?_,h.lo,fun hdn n hn=>?_⟩
 ·rw [fm_hasD hs] at hh
  rw [fm_hasD hs',hk _ (.inr (.inl ⟨_,hm p hp,rfl⟩))]
  exact hh
 ·rcases h.snp with h1 | ⟨h1,h2,h3⟩
  ·exact .inl h1
  ·exact .inr ⟨h1,by show fm d.files _=_; rw [hk _ (.inr (.inr ⟨h1,rfl⟩))]; exact h2,h3⟩
 ·show fm d.files _=_
  rw [hk _ (.inl rfl)]; exact h.man
 ·show fm d.files _=_
  rw [hk _ (.inr (.inl ⟨_,hm p (List.mem_append_left _ hp),rfl⟩))]
  exact h.full p hp
 ·obtain ⟨q,h1,h2⟩:=h.last
  exact ⟨q,by show fm d.files _=_; rw [hk _ (.inr (.inl ⟨_,hm (g,l) (by simp),rfl⟩))]; exact h1,h2⟩
 ·rcases hd with hd | ⟨h1,h2⟩
  ·rw [show d.down=false from hdn] at hd; cases hd
  ·exact h.only h2 n (by rw [← h1]; exact hn)
theorem W.fail (h:W f S l0 s M g l) (hs:srt s.disk.files) {r:Dsk × Int} {X:List Txt} {G:FM} (hO:Out s.disk r X G (some (fm s.disk.files))) (he:r.2≠0) (hX:∀ n∈X,¬ rel f s n) :
  W f S l0 { s with disk:=r.1 } M g l∧((r.2=9∧fm r.1.files=fm s.disk.files∧r.1.down=false)∨(r.2=10∧r.1.down=true)):=by
 obtain ⟨k,s1,o⟩:=hO
 rcases o with ⟨e,_⟩ | ⟨q,hq,e,hd,hf⟩ | ⟨e,hd,hf⟩
 ·exact absurd e he
 ·cases hq
  have h0:s.disk.down=false:=by
   cases hx:s.disk.down with
   | false=>rfl
   | true=>rw [k.down hx,hx] at hd; cases hd
  exact ⟨h.keep hs s1 (fun n _=>by rw [hf]) (.inr ⟨hf,h0⟩),.inl ⟨e,hf,hd⟩⟩
 ·exact ⟨h.keep hs s1 (fun n hn=>hf n (fun hx=>hX n hx hn)) (.inl hd),.inr ⟨e,hd⟩⟩
theorem W.same (h:W f S l0 s M g l) (hs:srt s.disk.files) {d:Dsk} (hf:d.files=s.disk.files) (hd:d.down=s.disk.down):W f S l0 { s with disk:=d } M g l:=by
 refine h.keep hs (by rw [hf]; exact hs) (fun n _=>by rw [hf]) ?_
 cases hx:s.disk.down with
 | true=>exact .inl (hd.trans hx)
 | false=>exact .inr ⟨by rw [hf],rfl⟩
theorem W.arm (h:W f S l0 s M g l) (hs:srt s.disk.files) (n:Int):W f S l0 { s with disk:=armD s.disk n } M g l:=h.same hs rfl rfl
theorem W.lim (h:W f S l0 s M g l) (hs:srt s.disk.files) (n:Int):W f S l0 { s with disk:=limD s.disk n } M g l:=h.same hs rfl rfl
theorem bases_lt {f:Int} {M:List SR} {g:Seg} (h:chainM f M g.base):∀ p∈M,p.1.base < g.base:=fun p hp=>by
 have:=(chain_mem _ _ _ h).2 p hp; omega
theorem incB_iff:∀ (l:List Int) (a:Int),incB a l=true↔(l.Pairwise (· < ·)∧∀ n∈l,a < n∧n≤1099511627776)
 | [],a=>by simp [incB]
 | x::r,a=>by
  have ih:=incB_iff r x
  simp only [incB,Bool.and_eq_true,decide_eq_true_eq,ih,List.pairwise_cons,List.mem_cons]
  constructor
  ·rintro ⟨h1,h2,h3⟩
   exact ⟨⟨fun b hb=>(h3 b hb).1,h2⟩,fun n hn=>by
    rcases hn with rfl | hn
    ·exact h1
    ·have:=h3 n hn; exact ⟨by omega,this.2⟩⟩
  ·rintro ⟨⟨h1,h2⟩,h3⟩
   exact ⟨h3 x (.inl rfl),h2,fun n hn=>⟨h1 n hn,(h3 n (.inr hn)).2⟩⟩
theorem manB_mk {m:Man} (hv:1≤m.ver∧m.ver≤1099511627776) (hl:1≤m.segs.length∧m.segs.length≤64) (hi:incB (-1) m.segs=true) (hz:(m.segs.head?=some 0∧m.size=0∧m.sum=0)∨(m.segs.head?≠some 0∧0 < m.size∧m.size≤65536)):manB m=true:=by
 unfold manB
 rw [hi,Bool.true_and,Bool.and_eq_true]
 refine ⟨by simpa using ⟨hv.1,hv.2,hl.1,hl.2⟩,?_⟩
 rcases hz with ⟨h1,h2,h3⟩ | ⟨h1,h2,h3⟩
 ·rw [if_pos h1]; simp [h2,h3]
 ·rw [if_neg h1]; simp [h2,h3]
theorem manB_z {m:Man} (h:manB m=true):(m.segs.head?=some 0∧m.size=0∧m.sum=0)∨(m.segs.head?≠some 0∧0 < m.size∧m.size≤65536):=by
 unfold manB at h
 rw [Bool.and_eq_true,Bool.and_eq_true] at h
 have h2:=h.2.2
 by_cases c:m.segs.head?=some 0
 ·rw [if_pos c] at h2; exact .inl ⟨c,by simpa using h2⟩
 ·rw [if_neg c] at h2; exact .inr ⟨c,by simpa using h2⟩
variable {k u:Nat} {f:Int} {S:Txt} {l0:List Pr} {s:Sto} {M:List SR} {g:Seg} {l:List Rec}
theorem W.file_ne (ho:okS k u s) (h:W f S l0 s M g l):∀ p∈M,fileN p.1.base≠fileN g.base:=fun p hp e=>by
 have h1:=(ho.seg _ (h.mem p (List.mem_append_left _ hp))).1
 have h2:=(ho.seg _ (h.mem (g,l) (by simp))).1
 have:p.1.base=g.base:=fileN_inj h1 h2 e
 have:=bases_lt h.inv.chain p hp
 omega
theorem Dk.up_of {d d':Dsk} (h:Dk d d') (hd:d'.down=false):d.down=false:=by
 cases hx:d.down with
 | false=>rfl
 | true=>rw [h.down hx,hx] at hd; cases hd
theorem W.change (ho:okS k u s) (h:W f S l0 s M g l) {s':Sto} {g':Seg} {l':List Rec} {x:Txt} {q:Nat} (hi:Inv f s' M g' l') (hb:g'.base=g.base) (hf:fm s'.disk.files=up (fm s.disk.files) (fileN g.base) (some (x,((q:Nat):Int)))) (hd:s.disk.down=false)
  (hm:s'.man=s.man) (hz:s'.size=s.size∧s'.sum=s.sum) (hx:x=rowS l') (h1:(rowS (l'.take (s'.sure - g.base).toNat)).length≤q∧q≤(rowS l').length) (hl:g.base≤s'.sure):W f S l0 s' M g' l':=by
 have hne:=h.file_ne ho
 have hsg:∀ n,rel f s n→rel f s' n:=by
  rintro n (hn | ⟨a,ha,hn⟩ | hn)
  ·exact .inl hn
  ·refine .inr (.inl ?_)
   rw [h.inv.segs] at ha
   rcases List.mem_append.1 ha with ha | ha
   ·exact ⟨a,by rw [hi.segs]; exact List.mem_append_left _ ha,hn⟩
   ·rw [List.mem_singleton.1 ha] at hn
    exact ⟨g',by rw [hi.segs]; simp,by rw [hb]; exact hn⟩
  ·exact .inr (.inr hn)
 refine ⟨hi,?_,?_,by rw [hm]; exact h.right,fun p hp=>?_,⟨q,?_,by rw [hb]; exact h1⟩,by rw [hb]; exact hl,fun _ n hn=>?_⟩
 ·rcases h.snp with h2 | ⟨h2,h3,h4⟩
  ·exact .inl ⟨h2.1,h2.2.1,h2.2.2.1,by rw [hz.1]; exact h2.2.2.2.1,by rw [hz.2]; exact h2.2.2.2.2⟩
  ·exact .inr ⟨h2,by rw [hf,up_ne _ _ (snap_file _ _)]; exact h3,h4.1,by rw [hz.1]; exact h4.2.1,by rw [hz.2]; exact h4.2.2⟩
 ·rw [hf,hm,up_ne _ _ (n109 _ (by rw [fileN_len]; decide)).symm]; exact h.man
 ·rw [hf,up_ne _ _ (hne p hp)]; exact h.full p hp
 ·rw [hf,hb,up_at,hx]
 ·by_cases c:n=fileN g.base
  ·exact hsg n (.inr (.inl ⟨g,h.mem (g,l) (by simp),c⟩))
  ·rw [hf,up_ne _ _ c] at hn
   exact hsg n (h.only hd n hn)
theorem W.sync (ho:okS k u s) (h:W f S l0 s M g l):W f S l0 (syncT s).1 M g l∧(((syncT s).2=0∧(syncT s).1.sure=s.next∧(syncT s).1.disk.down=false)∨((syncT s).2=10∧(syncT s).1.disk.down=true∧(syncT s).1.sure=s.sure))∧(syncT s).1.disk.cap=s.disk.cap:=by
 have hi:=sync_inv ho h.inv ho.next.1
 obtain ⟨q,h1,h2,h3⟩:=h.last
 have hO:=syn_out ho.dsk.srt h1
 have hl:=h.inv.last
 have es:syncT s=({ s with disk:=(chgF s.disk (synR s.disk.files (fileN g.base))).1,sure:=if (chgF s.disk (synR s.disk.files (fileN g.base))).2=0 then s.next else s.sure },(chgF s.disk (synR s.disk.files (fileN g.base))).2):=by unfold syncT; rw [hl]
 rw [es] at hi ⊢
 generalize chgF s.disk (synR s.disk.files (fileN g.base))=r at *
 have hnx:=h.inv.next
 have hcap:=hO.1.cap
 rcases hO.2.2 with ⟨e,hd,hf⟩ | ⟨_,hc,_⟩ | ⟨e,hd,hf⟩
 ·have e1:(if r.2=0 then s.next else s.sure)=s.next:=if_pos e
  rw [e1] at hi ⊢
  refine ⟨h.change ho hi rfl hf (hO.1.up_of hd) rfl ⟨rfl,rfl⟩ rfl ⟨?_,Nat.le_refl _⟩ ?_,.inl ⟨e,rfl,hd⟩,hcap⟩
  ·simp only []
   rw [List.take_of_length_le (by omega)]; exact Nat.le_refl _
  ·simp only []; omega
 ·cases hc
 ·have e1:(if r.2=0 then s.next else s.sure)=s.sure:=if_neg (by rw [e]; decide)
  rw [e1]
  exact ⟨h.keep ho.dsk.srt hO.2.1 (fun n _=>hf n (by simp)) (.inl hd),.inr ⟨e,hd,rfl⟩,hcap⟩
theorem segs_man (h:Inv f s M g l) (a b:Int):((s.segs.dropLast++[⟨s.last.base,a,b⟩]:List Seg)).map Seg.base=s.segs.map Seg.base:=by
 rw [h.last,h.segs]; simp
theorem W.put (ho:okS k u s) (h:W f S l0 s M g l) (r:Rec) (hr:whyF r=0) (ha:r.at_=s.next) :
  ((putT s (putF r).1).1.disk.cap=s.disk.cap∧(putT s (putF r).1).1.sure=s.sure)∧((W f S l0 (putT s (putF r).1).1 M g l∧(putT s (putF r).1).1.next=s.next∧(putT s (putF r).1).1.segs=s.segs∧(putT s (putF r).1).1.ver=s.ver∧((((putT s (putF r).1).2=9∧(putT s (putF r).1).1.disk.down=false)∨((putT s (putF r).1).2=10∧(putT s (putF r).1).1.disk.down=true)))) ∨
  ((putT s (putF r).1).2=0∧(putT s (putF r).1).1.disk.down=false∧W f S l0 (putT s (putF r).1).1 M ⟨g.base,g.n+1,g.size+(frameF (bodyF r)).length⟩ (l++[r]))):=by
 have hp:=put_inv ho h.inv r hr ha
 have hl:=h.inv.last
 have e1:(putF r).1=frameF (bodyF r):=by unfold putF; rw [if_pos hr]
 obtain ⟨q,h1,h2,h3⟩:=h.last
 have hO:=app_out ho.dsk.srt (frameF (bodyF r)) h1
 have hsg:=segs_man h.inv (s.last.n+1) (s.last.size+((frameF (bodyF r)).length:Nat))
 have hnx:=h.inv.next
 have hsu:=h.inv.sure
 have es:putT s (putF r).1=if (chgF s.disk (appR s.disk.files s.disk.cap (fileN g.base) (frameF (bodyF r)))).2≠0 then ({ s with disk:=(chgF s.disk (appR s.disk.files s.disk.cap (fileN g.base) (frameF (bodyF r)))).1 },(chgF s.disk (appR s.disk.files s.disk.cap (fileN g.base) (frameF (bodyF r)))).2) else ({ addSeg s (frameF (bodyF r)).length with disk:=(chgF s.disk (appR s.disk.files s.disk.cap (fileN g.base) (frameF (bodyF r)))).1 },0):=by
  unfold putT; rw [hl,e1]
 rw [es] at hp ⊢
 have hcap:=hO.1.cap
 by_cases c:(chgF s.disk (appR s.disk.files s.disk.cap (fileN g.base) (frameF (bodyF r)))).2=0
 ·rw [if_neg (by simp [c])] at hp ⊢
  refine ⟨⟨hcap,rfl⟩,.inr ?_⟩
  rcases hp with ⟨hp,_⟩ | ⟨_,hp⟩
  ·exact absurd rfl hp
  ·rcases hO.2.2 with ⟨e,hd,hf⟩ | ⟨_,_,e,_⟩ | ⟨e,_⟩
   ·refine ⟨rfl,hd,h.change ho hp rfl hf (hO.1.up_of hd) ?_ ⟨rfl,rfl⟩ (rowS_snoc _ _).symm ⟨?_,?_⟩ h.lo⟩
    ·show (⟨s.ver,(s.segs.dropLast++[_]).map Seg.base,s.size,s.sum⟩:Man)=s.man
     rw [hsg]; rfl
    ·show (rowS ((l++[r]).take (s.sure - g.base).toNat)).length≤q
     rw [List.take_append_of_le_length (by omega)]; exact h2
    ·rw [rowS_snoc,List.length_append]; omega
   ·rw [e] at c; cases c
   ·rw [e] at c; cases c
 ·rw [if_pos c] at hp ⊢
  refine ⟨⟨hcap,rfl⟩,.inl ?_⟩
  have:=h.fail ho.dsk.srt hO c (by simp)
  refine ⟨this.1,rfl,rfl,rfl,?_⟩
  rcases this.2 with ⟨a,_,b⟩ | h
  ·exact .inl ⟨a,b⟩
  ·exact .inr h
variable {k u:Nat} {f:Int} {S:Txt} {l0:List Pr} {s:Sto} {M:List SR} {g:Seg} {l:List Rec}
theorem W.man_inc (h:W f S l0 s M g l):(s.segs.map Seg.base).Pairwise (· < ·)∧(∀ n∈s.segs.map Seg.base,-1 < n∧n≤1099511627776) :=
 (incB_iff _ _).1 (manB_t h.right).2.2.1
theorem W.head (h:W f S l0 s M g l):(s.segs.map Seg.base).head?=some f:=by
 rw [h.inv.segs]
 have hc:=h.inv.chain
 cases M with
 | nil=>simp [chainM] at hc ⊢; omega
 | cons p r=>simp [chainM] at hc ⊢; omega
theorem rec_lt (h:Inv f s M g l) (hl:l≠[]):∀ a∈s.segs,a.base < s.next:=by
 intro a ha
 have hn:=h.next
 have hp:0 < l.length:=List.length_pos_iff.2 hl
 rw [h.segs] at ha
 rcases List.mem_append.1 ha with ha | ha
 ·obtain ⟨p,hp2,rfl⟩:=List.mem_map.1 ha
  have:=bases_lt h.chain p hp2
  omega
 ·rw [List.mem_singleton.1 ha]; omega
theorem roll_right (h:W f S l0 s M g l) (hl:l≠[]) (hn:s.next≤1099511627776) (hv:s.ver+1≤1099511627776) (hlen:s.segs.length < 64):manB (rollX s).man=true:=by
 have hm:=manB_t h.right
 have hi:=h.man_inc
 have hlt:=rec_lt h.inv hl
 have hg0:=h.inv.next
 have e:(rollX s).man.segs=s.segs.map Seg.base++[s.next]:=by show (s.segs++[_]).map Seg.base=_; simp
 have hv1:1≤s.ver:=hm.1.1
 have h0:0≤s.next:=by have:=h.inv.sure; omega
 refine manB_mk ⟨by show 1≤s.ver+1; omega,hv⟩ ⟨by rw [e]; simp,by rw [e]; simp; omega⟩ ?_ ?_
 ·rw [e,incB_iff,List.pairwise_append]
  refine ⟨⟨hi.1,by simp,fun a ha b hb=>?_⟩,fun n hx=>?_⟩
  ·obtain ⟨c,hc,rfl⟩:=List.mem_map.1 ha
   rw [List.mem_singleton.1 hb]
   exact hlt c hc
  ·rcases List.mem_append.1 hx with hx | hx
   ·exact hi.2 n hx
   ·rw [List.mem_singleton.1 hx]; omega
 ·have hz:=manB_z h.right
  have eh:(rollX s).man.segs.head?=s.man.segs.head?:=by
   rw [e]
   show _=(s.segs.map Seg.base).head?
   rw [List.head?_append,h.head]; rfl
  rw [eh]; exact hz
theorem W.roll (ho:okS k u s) (h:W f S l0 s M g l) (hl:l≠[]) (hv:u < 1000000000000) :
  (rollT s).1.disk.cap=s.disk.cap∧((W f S l0 (rollT s).1 M g l∧(rollT s).1.segs=s.segs∧(((rollT s).2=9∧(rollT s).1.disk.down=s.disk.down)∨((rollT s).2=10∧(rollT s).1.disk.down=true))) ∨
  ((rollT s).2=0∧(rollT s).1.disk.down=false∧(rollT s).1.sure=s.next∧W f S l0 (rollT s).1 (M++[(g,l)]) ⟨s.next,0,0⟩ [])):=by
 have hri:=roll_inv ho h.inv hl
 have hsy:=h.sync ho
 have hos:=syncT_ok ho
 unfold rollT at hri ⊢
 by_cases c1:64≤s.segs.length
 ·rw [if_pos c1]; exact ⟨rfl,.inl ⟨h,rfl,.inl ⟨rfl,rfl⟩⟩⟩
 ·rw [if_neg c1] at hri ⊢
  by_cases c2:(syncT s).2=0
  ·rw [if_neg (by simp [c2])] at hri ⊢
   have hsg:(syncT s).1.segs=s.segs:=rfl
   have hn:(syncT s).1.next=s.next:=rfl
   obtain ⟨hw,hst,hcap⟩:=hsy
   have hst2:(syncT s).1.sure=s.next∧(syncT s).1.disk.down=false:=by
    rcases hst with h1 | h1
    ·exact h1.2
    ·rw [h1.1] at c2; cases c2
   have hdn:s.disk.down=false:=by
    have hO:=syn_out ho.dsk.srt h.last.choose_spec.1
    have hl2:=h.inv.last
    have e2:(syncT s).1.disk=(chgF s.disk (synR s.disk.files (fileN g.base))).1:=by unfold syncT; rw [hl2]
    exact hO.1.up_of (by rw [← e2]; exact hst2.2)
   rw [← hsg] at c1
   rw [← hn] at hst2 hri ⊢
   generalize (syncT s).1=t at *
   have hnx:=hos.next
   have hvt:=hos.ver
   have hlt:=rec_lt hw.inv hl
   have hrt:=roll_right hw hl hnx.2 (by omega) (by omega)
   have hnone:t.disk.down=false→fm t.disk.files (fileN t.next)=none:=fun hd=>by
    cases hx:fm t.disk.files (fileN t.next) with
    | none=>rfl
    | some v =>
     rcases hw.only hd (fileN t.next) (by rw [hx]; simp) with e | ⟨a,ha,e⟩ | ⟨_,e⟩
     ·exact absurd e (n109 _ (by rw [fileN_len]; decide))
     ·have:=fileN_inj (by omega) (hos.seg a ha).1 e
      have:=hlt a ha; omega
     ·exact absurd e.symm (snap_file _ _)
   have hnr:∀ n∈[fileN t.next,[110]],¬ rel f t n:=by
    intro n hx
    rcases List.mem_cons.1 hx with rfl | hx
    ·rintro (e | ⟨a,ha,e⟩ | ⟨_,e⟩)
     ·exact absurd e (n109 _ (by rw [fileN_len]; decide))
     ·have:=fileN_inj (by omega) (hos.seg a ha).1 e
      have:=hlt a ha; omega
     ·exact absurd e.symm (snap_file _ _)
    ·rw [List.mem_singleton.1 hx]; exact rel_110 f t
   have h110:t.disk.down=false→fm t.disk.files [110]=none:=fun hd=>by
    cases hx:fm t.disk.files [110] with
    | none=>rfl
    | some v=>exact absurd (hw.only hd [110] (by rw [hx]; simp)) (rel_110 f t)
   have hO:Out t.disk (rollD t) [fileN t.next,[110]] _ _:=crt_swap_out hos.dsk.srt hrt (namedN _) (n110 _ (by rw [fileN_len]; decide)) h110 hnone
   have hcap2:=hO.1.cap
   by_cases c3:(rollD t).2=0
   ·rw [if_pos c3] at hri ⊢
    rcases hri with ⟨hx,_⟩ | ⟨_,hri⟩
    ·exact absurd rfl hx
    rcases hO.2.2 with ⟨e,hd,hf⟩ | ⟨_,_,e,_⟩ | ⟨e,_⟩
    ·refine ⟨hcap2.trans hcap,.inr ⟨rfl,hd,hst2.1,hri,?_,?_,hrt,fun p hp=>?_,⟨0,?_,by simp [rowS],by simp⟩,?_,fun _ n hx=>?_⟩⟩
     ·rcases hw.snp with h2 | ⟨h2,h3,h4⟩
      ·exact .inl h2
      ·exact .inr ⟨h2,by show fm (rollD t).1.files _=_; rw [hf,up_ne _ _ (n109 _ (by rw [snapN_len]; decide)),up_ne _ _ (snap_file _ _)]; exact h3,h4⟩
     ·show fm (rollD t).1.files _=_
      rw [hf,up_at]; rfl
     ·show fm (rollD t).1.files _=_
      have hpm:p.1∈t.segs:=hw.mem p hp
      have hne:fileN p.1.base≠fileN t.next:=fun e=>by
       have:p.1.base=t.next:=fileN_inj (hos.seg _ hpm).1 (by omega) e
       have:=hlt _ hpm; omega
      rw [hf,up_ne _ _ (n109 _ (by rw [fileN_len]; decide)),up_ne _ _ hne]
      rcases List.mem_append.1 hp with hp | hp
      ·exact hw.full p hp
      ·rw [List.mem_singleton.1 hp]
       obtain ⟨q,h1,h2,h3⟩:=hw.last
       have hnn:=hw.inv.next
       rw [List.take_of_length_le (by omega)] at h2
       rw [h1,show q=(rowS l).length by omega]
     ·show fm (rollD t).1.files _=_
      rw [hf,up_ne _ _ (n109 _ (by rw [fileN_len]; decide)),up_at]; rfl
     ·show t.next≤t.sure
      omega
     ·have hx2:fm (rollD t).1.files n≠none:=hx
      rw [hf] at hx2
      by_cases a1:n=[109]
      ·exact .inl a1
      ·rw [up_ne _ _ a1] at hx2
       by_cases a2:n=fileN t.next
       ·exact .inr (.inl ⟨⟨t.next,0,0⟩,by show _∈t.segs++[_]; simp,a2⟩)
       ·rw [up_ne _ _ a2] at hx2
        rcases hw.only hst2.2 n hx2 with e | ⟨a,ha,e⟩ | e
        ·exact .inl e
        ·exact .inr (.inl ⟨a,by show a∈t.segs++[_]; simp [ha],e⟩)
        ·exact .inr (.inr e)
    ·rw [e] at c3; cases c3
    ·rw [e] at c3; cases c3
   ·rw [if_neg c3]
    have:=hw.fail hos.dsk.srt hO c3 hnr
    refine ⟨hcap2.trans hcap,.inl ⟨this.1,hsg,?_⟩⟩
    rcases this.2 with ⟨a,_,b⟩ | hh
    ·exact .inl ⟨a,b.trans hdn.symm⟩
    ·exact .inr hh
  ·rw [if_pos c2]
   refine ⟨hsy.2.2,.inl ⟨hsy.1,rfl,?_⟩⟩
   rcases hsy.2.1 with h1 | h1
   ·exact absurd h1.1 c2
   ·exact .inr ⟨h1.1,h1.2.1⟩
def WR (f:Int) (S:Txt) (l0:List Pr) (s:Sto) (R:List Rec):Prop:=∃ M g l,W f S l0 s M g l∧recsM (M++[(g,l)])=R
theorem WR.next {R:List Rec} (h:WR f S l0 s R):s.next=f+R.length:=by
 obtain ⟨M,g,l,h,rfl⟩:=h
 have:=chain_len _ _ _ h.inv.chain
 have hn:=h.inv.next
 rw [recsM_app,recsM_one,List.length_append]
 simp only []; omega
theorem WR.sure {R:List Rec} (h:WR f S l0 s R):f≤s.sure∧s.sure≤s.next:=by
 obtain ⟨M,g,l,h,rfl⟩:=h
 have:=(chain_mem _ _ _ h.inv.chain).1
 have:=h.lo
 have:=h.inv.sure
 omega
theorem WR.floor {R:List Rec} (h:WR f S l0 s R):s.floor=f:=by
 obtain ⟨M,g,l,h,rfl⟩:=h
 have h1:=h.head
 unfold Sto.floor
 cases hs:s.segs with
 | nil=>rw [hs] at h1; cases h1
 | cons a r=>rw [hs] at h1; simpa using h1
theorem WR.app {R:List Rec} (ho:okS k u s) (h:WR f S l0 s R) {seg:Int} (hseg:1≤seg) (hv:u < 1000000000000) (r:Rec) :
  s.sure≤(appT s seg r).1.sure∧(appT s seg r).1.disk.cap=s.disk.cap∧(((appT s seg r).2=0∧r.at_=s.next∧whyF r=0∧s.next < 1099511627776∧(appT s seg r).1.disk.down=false∧WR f S l0 (appT s seg r).1 (R++[r])) ∨
   (WR f S l0 (appT s seg r).1 R∧(((appT s seg r).2=1∧(appT s seg r).1=s∧(whyF r≠0∨r.at_≠s.next))∨((appT s seg r).2=13∧(appT s seg r).1=s∧1099511627776≤s.next)∨(appT s seg r).2=9∨((appT s seg r).2=10∧(appT s seg r).1.disk.down=true)))):=by
 have h0:=h
 obtain ⟨M,g,l,h,rfl⟩:=h
 have hlast:=h.inv.last
 unfold appT
 by_cases c1:(putF r).2≠0∨r.at_≠s.next
 ·rw [if_pos c1]
  refine ⟨Int.le_refl _,rfl,.inr ⟨h0,.inl ⟨rfl,rfl,?_⟩⟩⟩
  rcases c1 with c1 | c1
  ·refine .inl fun hw=>c1 ?_
   unfold putF; rw [if_pos hw]
  ·exact .inr c1
 ·rw [if_neg c1]
  simp only [not_or,Decidable.not_not] at c1
  obtain ⟨c1,ca⟩:=c1
  have hr:whyF r=0:=by
   unfold putF at c1
   split at c1
   ·assumption
   ·exact c1
  by_cases c2:1099511627776≤s.next
  ·rw [if_pos c2]; exact ⟨Int.le_refl _,rfl,.inr ⟨h0,.inr (.inl ⟨rfl,rfl,c2⟩)⟩⟩
  ·rw [if_neg c2]
   by_cases c3:seg≤s.last.size
   ·rw [if_pos c3]
    have hg:=(h.inv.file (g,l) (by simp)).size
    have hl:l≠[]:=by
     rintro rfl
     rw [hlast] at c3
     simp only [rowS,List.flatMap_nil,List.length_nil] at hg
     omega
    have hro:=h.roll ho hl hv
    have hmo:=roll_mono ho h.inv.sure.2
    have hok:=rollT_ok ho
    have hnx:=rollT_next s
    by_cases c4:(rollT s).2=0
    ·rw [if_neg (by simp [c4])]
     rcases hro.2 with ⟨_,_,⟨e,_⟩ | ⟨e,_⟩⟩ | ⟨_,hd,hs2,hw⟩
     ·rw [e] at c4; cases c4
     ·rw [e] at c4; cases c4
     ·have hcap:=hro.1
      have hp:=hw.put hok r hr (by rw [hnx]; exact ca)
      generalize (rollT s).1=t at *
      have e0:recsM (M++[(g,l)]++[(⟨s.next,0,0⟩,[])])=recsM (M++[(g,l)]):=by rw [recsM_app,recsM_one,List.append_nil]
      refine ⟨by rw [hp.1.2]; exact hmo,hp.1.1.trans hcap,?_⟩
      rcases hp.2 with ⟨h1,h2,_,_,h3⟩ | ⟨h1,h2,h3⟩
      ·refine .inr ⟨⟨_,_,_,h1,e0⟩,.inr (.inr ?_)⟩
       rcases h3 with h3 | h3
       ·exact .inl h3.1
       ·exact .inr h3
      ·refine .inl ⟨h1,ca,hr,by omega,h2,_,_,_,h3,?_⟩
       rw [recsM_app,recsM_one]; rfl
    ·rw [if_pos c4]
     refine ⟨hmo,hro.1,.inr ?_⟩
     rcases hro.2 with ⟨h1,_,h2⟩ | ⟨e,_⟩
     ·refine ⟨⟨_,_,_,h1,rfl⟩,.inr (.inr ?_)⟩
      rcases h2 with h2 | h2
      ·exact .inl h2.1
      ·exact .inr h2
     ·exact absurd e c4
   ·rw [if_neg c3]
    have hp:=h.put ho r hr ca
    refine ⟨by rw [hp.1.2]; exact Int.le_refl _,hp.1.1,?_⟩
    rcases hp.2 with ⟨h1,h2,_,_,h3⟩ | ⟨h1,h2,h3⟩
    ·refine .inr ⟨⟨_,_,_,h1,rfl⟩,.inr (.inr ?_)⟩
     rcases h3 with h3 | h3
     ·exact .inl h3.1
     ·exact .inr h3
    ·refine .inl ⟨h1,ca,hr,by omega,h2,_,_,_,h3,?_⟩
     rw [recsM_app,recsM_one,recsM_app,recsM_one,List.append_assoc]
end Go.Proofs.YtfalabebadoaiaaGreat
