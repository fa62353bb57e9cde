import Derived.Test.YtghfhomfppbooaaGreatT07
import Derived.Test.YtghfhomfppbooaaGreatT06
import Derived.Test.YtghfhomfppbooaaGreatVid
set_option linter.unusedSimpArgs false
set_option linter.unusedVariables false
namespace Go.Proofs.YtghfhomfppbooaaGreat
open Go.Vi
theorem readN_succ (b:Txt):∀ (k:Nat) (s:Nat × Bool),readN b (k+1) s=((readN b k s).1++[((numT b (readN b k s).2).1:Int)],(numT b (readN b k s).2).2)
 | 0,s=>by simp[readN]
 | k+1,s=>by
  rw[readN,readN_succ b k (numT b s).2];simp[readN]
theorem readN_len (b:Txt):∀ (k:Nat) (s:Nat × Bool),s.1<=b.length->(readN b k s).2.1<=b.length∧(readN b k s).1.length=k
 | 0,s,h=>⟨h,rfl⟩
 | k+1,s,h=>by
  have:=readN_len b k (numT b s).2 (numT_len b s h).1;exact⟨this.1,by simp[readN,this.2]⟩
def manZ:Option Man->V
 | some m=>manV4 m
 | none=>errM 3
theorem number_iso (b:Txt) (hb:b.length<=1000000) (s:Nat × Bool) (hs:s.1<=1000000) (B0 B2:Box):callIso call 102 [.one (.p 1 0)] [B0,.cells (rdB b s),B2]=some (vi (numT b s).1,[B0,.cells (rdB b (numT b s).2),B2]) :=
 iso_at (ids:=[1]) rfl rfl rfl (number_spec b hb s hs) rfl
set_option maxRecDepth 8000 in
set_option maxHeartbeats 4000000 in
theorem getM_spec (s:Txt) (hs:s.length<=1000000):∃ Z,call 55 [vs s] []=some (Z,[])∧(∀ m,decM s=some m->Z=manV4 m)∧(decM s=none->∃ e,e≠0∧Z=errM e):=by
 have q0:=next_spec s 0 (by decide) (by omega)
 have z0:((0:Nat):Int)=0:=rfl;rw[z0] at q0;have hbl:=nextF_tlen s 0;rw[<- getT_dec];unfold getT;generalize nextF s 0=nn at *;obtain⟨b,nx,e⟩:=nn;simp only[nextV] at q0 hbl ⊢;by_cases he:e=0
 ·subst he;rw[if_neg (by simp)]
  obtain⟨bad,hbad⟩:∃ bad:Bool,bad=decide ((nx:Int)≠(s.length:Nat)):=⟨_,rfl⟩;rw[<- hbad];have hw:((nx:Int) != ((s.length:Nat):Int))=bad:=by rw[hbad];by_cases c:(nx:Int)=((s.length:Nat):Int) <;> simp[c]
  refine⟨manZ (getB b bad),?_,fun m h=>by rw[h];rfl,fun h=>⟨3,by decide,by rw[h];rfl⟩⟩
  generalize hZ:manZ (getB b bad)=Z;have l1:=numT_len b (0,bad) (Nat.zero_le _);have p1:=number_spec b (by omega) (0,bad) (Nat.zero_le _)
  unfold getB at hZ;simp only at hZ;generalize hr1:numT b (0,bad)=r1 at *;have l2:=numT_len b r1.2 l1.1;have p2:=number_iso b (by omega) r1.2 (by omega)
  generalize hr2:numT b r1.2=r2 at *;obtain⟨v,a1,b1⟩:=r1;obtain⟨n,a2,b2⟩:=r2;have p1':∀ B0:Box,callIso call 102 [.one (.p 1 0)] [B0,.cells [.d (.s b),.d (.i .i64 0),.d (.b bad)]]=some (vi v,[B0,.cells [.d (.s b),.d (.i .i64 a1),.d (.b b1)]]):=fun B0 =>
   iso_at (ids:=[1]) rfl rfl rfl p1 rfl
  simp only[rdB] at p1' p2 l1 l2 hZ;apply enterS s55 rfl;by_cases cn:64<n
  ·have cn':(64:Int)<(n:Int):=by omega
   rw[if_pos cn] at hZ;simp only[manZ] at hZ;rw[<- hZ];(simp(disch:=first|decide|omega|(intros;exact Eq.trans rfl rfl)|simp only[puri]) only[wkf,a55,q0,hw,p1',p2,decide_eq_true cn',go_sem,seval,dis])
   try simp[trim,errM,zeroM]
  ·have cn':¬ (64:Int)<(n:Int):=by omega
   rw[if_neg cn] at hZ;(simp(disch:=first|decide|omega|(intros;exact Eq.trans rfl rfl)|simp only[puri]) only[wkf,a55,q0,hw,p1',p2,decide_eq_false cn',go_sem,seval,dis])
   have hl3:=fun i=>readN_len b i (a2,b2) l2.1
   refine loop_boxM (m:=0) (σ:=Option Nat) (fun t=>match t with|none=>n+1|some i=>n-i) (fun t=>match t with|none=>True|some i=>i+1<=n) (fun t=>match t with|none=>[V.one (.p 0 0),V.one (.p 1 0),V.one (.p 2 0),vi n,vi 0]|some i=>[V.one (.p 0 0),V.one (.p 1 0),V.one (.p 2 0),vi n,vi ((i+1:Nat):Int)])
    (fun t=>match t with|none=>[.cells [.d (.i .i64 0),.ns,.d (.i .i64 0),.d (.i .u32 0)],.cells [.d (.s b),.d (.i .i64 a2),.d (.b b2)],.cells [.d (.i .i64 v),.ns,.d (.i .i64 0),.d (.i .u32 0)]]|some i=>[.cells [.d (.i .i64 0),.ns,.d (.i .i64 0),.d (.i .u32 0)],.cells [.d (.s b),.d (.i .i64 (readN b (i+1) (a2,b2)).2.1),.d (.b (readN b (i+1) (a2,b2)).2.2)],.cells [.d (.i .i64 v),.sl 3 1 0 (i+1),.d (.i .i64 0),.d (.i .u32 0)],.arr 1 ((readN b (i+1) (a2,b2)).1.map eI) 0]) (fun _=>(Z,[])) ?_ none trivial _ _ ?_
   rotate_left
   ·exact hdM
   intro t hi R hR;cases t with
   | none =>
    simp only;by_cases c:0<n
    ·have ci:(0:Int)<(n:Int):=by omega
     have hK:=hR (some 0) (by simp only[];omega) (by simp only[];omega)
     have p3:=number_spec b (by omega) (a2,b2) (by simp only[];omega)
     simp only[readN,rdB,List.map_cons,List.map_nil,eI] at p3 hK;generalize numT b (a2,b2)=r at *;obtain⟨w,a3,b3⟩:=r;simp only at p3 hK;have f1:∀ B0 B2:Box,isoCall call 102 [.one (.p 1 0)] [B0,.cells [.d (.s b),.d (.i .i64 a2),.d (.b b2)],B2]=some (vi w,[B0,.cells [.d (.s b),.d (.i .i64 a3),.d (.b b3)],B2]):=fun B0 B2 =>
      isoc_at (ids:=[1]) rfl rfl rfl (iso_at (ids:=[0]) rfl rfl rfl p3 rfl) rfl
     clear hR hZ;(simp(disch:=first|decide|omega|(intros;exact Eq.trans rfl rfl)|simp only[puri]) only[wkf,a55_0,ci,↓isoC1_e,f1,↓iso_appns_e,anK_ns,↓iso_sto_e,stKo_p,go_sem,seval,dis,vdr,A.kind,A.xs,optX,A.isN])
     exact hK _ _ hdM
    ·have hn0:n=0:=by omega
     subst hn0;clear hR;have l4:=numT_len b (a2,b2) l2.1;have p4:=number_spec b (by omega) (a2,b2) (by simp only[];omega)
     simp only[readN] at hZ;have p5:=rsum_spec b (by omega) (numT b (a2,b2)).2 l4.1
     rcases hq:numT b (a2,b2) with⟨w,a3,b3⟩;simp only[hq] at hZ p4 p5 l4;rcases hq2:sumS b (a3,b3) with⟨sm,a4,b4⟩;simp only[hq2] at hZ p5;clear hq hq2;have hmr:=manRight_spec ⟨v,[],w,sm⟩ (by simp)
     have hmb:manB ⟨v,[],w,sm⟩=false:=by simp[manB]
     rw[hmb] at hZ hmr;rw[if_neg (by simp)] at hZ
     simp only[rdB,Man.l,List.map_nil] at p4 p5 hmr;have f4:∀ B0 B2:Box,callIso call 102 [.one (.p 1 0)] [B0,.cells [.d (.s b),.d (.i .i64 a2),.d (.b b2)],B2]=some (vi w,[B0,.cells [.d (.s b),.d (.i .i64 a3),.d (.b b3)],B2]):=fun B0 B2=>iso_at (ids:=[1]) rfl rfl rfl p4 rfl
     have f5:∀ B0 B2:Box,callIso call 103 [.one (.p 1 0)] [B0,.cells [.d (.s b),.d (.i .i64 a3),.d (.b b3)],B2]=some (vk .u32 sm,[B0,.cells [.d (.s b),.d (.i .i64 a4),.d (.b b4)],B2]):=fun B0 B2=>iso_at (ids:=[1]) rfl rfl rfl p5 rfl
     simp only[manZ] at hZ;rw[<- hZ];cases b4 with
     | true =>
      (simp(disch:=first|decide|omega|(intros;exact Eq.trans rfl rfl)|simp only[puri]) only[wkf,a55_0,a55,f4,f5,go_sem,seval,dis,vdr,A.kind,A.xs,optX,A.isN])
      try simp[trim,errM,zeroM]
     | false =>
      (simp(disch:=first|decide|omega|(intros;exact Eq.trans rfl rfl)|simp only[puri]) only[wkf,a55_0,a55,f4,f5,hmr,go_sem,seval,dis,vdr,A.kind,A.xs,optX,A.isN])
      try simp[trim,errM,zeroM]
   | some i =>
    simp only;by_cases c:i+1<n
    ·have ci:((i+1:Nat):Int)<(n:Int):=by omega
     have hK:=hR (some (i+1)) (by simp only[];omega) (by simp only[];omega)
     have hl4:=hl3 (i+1);have p3:=number_spec b (by omega) (readN b (i+1) (a2,b2)).2 (by omega)
     simp only[readN_succ b (i+1),List.map_append,List.map_cons,List.map_nil] at hK;have hml:((readN b (i+1) (a2,b2)).1.map eI).length=i+1:=by simp[hl4.2]
     clear hR hZ hl3;generalize (readN b (i+1) (a2,b2)).1.map eI=Q at *;generalize (readN b (i+1) (a2,b2)).2=r0 at *;generalize numT b r0=r at *;obtain⟨w,a4,b4⟩:=r;obtain⟨a3,b3⟩:=r0;simp only[rdB,eI] at p3 hK ⊢;have f1:∀ B0 B2 B3:Box,isoCall call 102 [.one (.p 1 0)] [B0,.cells [.d (.s b),.d (.i .i64 a3),.d (.b b3)],B2,B3]=some (vi w,[B0,.cells [.d (.s b),.d (.i .i64 a4),.d (.b b4)],B2,B3]):=fun B0 B2 B3 =>
      isoc_at (ids:=[1]) rfl rfl rfl (iso_at (ids:=[0]) rfl rfl rfl p3 rfl) rfl
     (simp(disch:=first|decide|omega|(intros;exact Eq.trans rfl rfl)|simp only[puri]) only[wkf,a55_0,ci,↓isoC1_e,f1,hml,↓iso_sto_e,stKo_p,go_sem,seval,dis,vdr,A.kind,A.xs,optX,A.isN])
     exact hK _ _ hdM
    ·have ci:¬ ((i+1:Nat):Int)<(n:Int):=by omega
     have hin:i+1=n:=by omega
     rw[hin];have hl4:=hl3 n;clear hR hl3 hi c;obtain⟨Q,hQ⟩:∃ Q,Q=readN b n (a2,b2):=⟨_,rfl⟩;rw[<- hQ] at hZ hl4 ⊢;obtain⟨sg,a3,b3⟩:=Q;simp only at hZ hl4 ⊢;have l4:=numT_len b (a3,b3) hl4.1;have p4:=number_spec b (by omega) (a3,b3) (by simp only[];omega)
     have p5:=rsum_spec b (by omega) (numT b (a3,b3)).2 l4.1
     rcases hq:numT b (a3,b3) with⟨w,a4,b4⟩;simp only[hq] at hZ p4 p5 l4;rcases hq2:sumS b (a4,b4) with⟨sm,a5,b5⟩;simp only[hq2] at hZ p5;clear hq hq2;have hmr:=manRight_spec ⟨v,sg,w,sm⟩ (by simp only[];omega)
     simp only[rdB,Man.l] at p4 p5 hmr hZ;have f4:∀ B0 B2 B3:Box,callIso call 102 [.one (.p 1 0)] [B0,.cells [.d (.s b),.d (.i .i64 a3),.d (.b b3)],B2,B3]=some (vi w,[B0,.cells [.d (.s b),.d (.i .i64 a4),.d (.b b4)],B2,B3]):=fun B0 B2 B3=>iso_at (ids:=[1]) rfl rfl rfl p4 rfl
     have f5:∀ B0 B2 B3:Box,callIso call 103 [.one (.p 1 0)] [B0,.cells [.d (.s b),.d (.i .i64 a4),.d (.b b4)],B2,B3]=some (vk .u32 sm,[B0,.cells [.d (.s b),.d (.i .i64 a5),.d (.b b5)],B2,B3]):=fun B0 B2 B3=>iso_at (ids:=[1]) rfl rfl rfl p5 rfl
     have hml:(sg.map eI).length=n:=by simp[hl4.2]
     have htk:List.take n (sg.map eI)=sg.map eI:=List.take_of_length_le (by omega)
     cases b5 with
     | true =>
      rw[if_neg (by simp)] at hZ
      simp only[manZ] at hZ;rw[<- hZ];(simp(disch:=first|decide|omega|(intros;exact Eq.trans rfl rfl)|simp only[puri]) only[wkf,a55_0,a55,ci,f4,f5,go_sem,seval,dis,vdr,A.kind,A.xs,optX,A.isN])
      try simp[trim,errM,zeroM]
     | false =>
      generalize hmbv:manB ⟨v,sg,w,sm⟩=mb at *;cases mb with
      | false =>
       rw[if_neg (by simp)] at hZ
       simp only[manZ] at hZ;rw[<- hZ];(simp(disch:=first|decide|omega|(intros;exact Eq.trans rfl rfl)|simp only[puri]) only[wkf,a55_0,a55,ci,f4,f5,hmr,hml,htk,go_sem,seval,dis,vdr,A.kind,A.xs,optX,A.isN])
       try simp[trim,errM,zeroM]
      | true =>
       rw[if_pos (by simp)] at hZ
       simp only[manZ] at hZ;rw[<- hZ];(simp(disch:=first|decide|omega|(intros;exact Eq.trans rfl rfl)|simp only[puri]) only[wkf,a55_0,a55,ci,f4,f5,hmr,hml,htk,go_sem,seval,dis,vdr,A.kind,A.xs,optX,A.isN])
       try simp[trim,manV4,Man.l]
 ·rw[if_pos he];refine⟨errM e,?_,fun m h=>(by cases h),fun _=>⟨e,he,rfl⟩⟩
  apply enterS s55 rfl;(simp(disch:=first|decide|omega|(intros;exact Eq.trans rfl rfl)|simp only[puri]) only[wkf,a55,q0,he,go_sem,seval,dis])
  try simp[trim,errM,zeroM]
def segT (d:Dsk) (b:Int):Seg × Int:=(⟨b,(scanS (readF d.files (fileN b)).1 b).1.length,(scanS (readF d.files (fileN b)).1 b).2.1⟩,(scanS (readF d.files (fileN b)).1 b).2.2)
def segsT (d:Dsk):List Int->Option (List Seg)
 | []=>some []
 | b::r=>if(readF d.files (fileN b)).2≠0 then none else match r with
  | []=>some [(segT d b).1]
  | c::_=>if(segT d b).2≠0∨b+(segT d b).1.n≠c then none else(segsT d r).map ((segT d b).1 :: ·)
def wholeT (gs:List Seg):Int:=(gs.getLastD ⟨0,0,0⟩).size
def segsV:Option (List Seg)->V
 | some gs=>.tup [(false,[.d (.l (gs.map Seg.enc))]),(false,[.d (.i .i64 (wholeT gs))]),(false,[.d (.b true)])]
 | none=>.tup [(false,[.d (.l [])]),(false,[.d (.i .i64 0)]),(false,[.d (.b false)])]
def segsC (d:Dsk) (out:List Seg) (r:List Int):Option (List Seg):=(segsT d r).map (out ++ ·)
theorem segsT_cons (d:Dsk) (b:Int) (r:List Int):segsT d (b::r)=if(readF d.files (fileN b)).2≠0 then none else match r with
  | []=>some [(segT d b).1]
  | c::_=>if(segT d b).2≠0∨b+(segT d b).1.n≠c then none else(segsT d r).map ((segT d b).1 :: ·):=by cases r <;> simp only[segsT]
theorem whole_snoc (l:List Seg) (g:Seg):wholeT (l++[g])=g.size:=by unfold wholeT;rw[List.getLastD_concat]
set_option maxRecDepth 8000 in
set_option maxHeartbeats 4000000 in
theorem rsegs_spec {k u:Nat} (d:Dsk) (hd:okN k u d) (hk:k<=900000) (hu:u<=1000000) (m:Man) (hm:m.segs.length<=64) (hb:∀ b∈m.segs,0<=b∧b<=1099511627776):call 32 [.agg d.l,.agg m.l] []=some (segsV (segsT d m.segs),[]):=by
 have hrd:=fun n=>rread_spec d (Nat.le_trans hd.len (by omega)) hd.srt n
 obtain⟨Z,hZ⟩:∃ Z,Z=segsT d m.segs:=⟨_,rfl⟩;rw[<- hZ];obtain⟨ver,segs,size,sum⟩:=m;simp only at hm hb hZ;have hml:(⟨ver,segs,size,sum⟩:Man).l=[.d (.i .i64 ver),.d (.l (segs.map eI)),.d (.i .i64 size),.d (.i .u32 sum)]:=rfl;have hdl:d.l=[.d (.l (d.files.map Fil.enc)),.d (.i .i64 d.cap),.d (.b d.armed),.d (.i .i64 d.left),.d (.b d.down)]:=rfl;rw[hml,hdl];rw[hdl] at hrd;have hlm:(segs.map eI).length=segs.length:=by simp
 apply enterS s32 rfl;(simp(disch:=first|decide|omega|(intros;exact Eq.trans rfl rfl)|simp only[puri]) only[wkf,a32,go_sem,seval,dis])
 refine loop_boxM (m:=0) (σ:=Nat × List Seg × Int) (fun t=>segs.length-t.1) (fun t=>t.1<=segs.length∧t.2.1.length=t.1∧t.2.2=wholeT t.2.1∧Z=segsC d t.2.1 (segs.drop t.1)) (fun t=>[V.one (.p 0 0),V.one (.p 1 0),V.one (.sl 2 3 0 t.2.1.length),vi t.2.2,vi t.1])
  (fun t=>[.cells [.d (.l (d.files.map Fil.enc)),.d (.i .i64 d.cap),.d (.b d.armed),.d (.i .i64 d.left),.d (.b d.down)],.cells [.d (.i .i64 ver),.d (.l (segs.map eI)),.d (.i .i64 size),.d (.i .u32 sum)],.arr 3 (t.2.1.map Seg.enc) 0])
  (fun _=>(segsV Z,[])) ?_ (0,[],0) ⟨Nat.zero_le _,rfl,rfl,by rw[hZ];simp[segsC]⟩ _ _ hdM
 rintro⟨i,out,wh⟩ ⟨h1,h2,h3,h4⟩ R hR;simp only at h1 h2 h3 h4 ⊢;have hol:(out.map Seg.enc).length=out.length:=by simp
 by_cases c:i<segs.length
 ·have hc:(i:Int)<(segs.length:Int):=by omega
  have g1:(segs.map eI)[i]?=some [.i .i64 segs[i]]:=by rw[List.getElem?_map,List.getElem?_eq_getElem c];rfl
  have hbi:=hb _ (List.getElem_mem c);have q1:=rseg_spec hbi;have q2:=hrd (fileN segs[i]);have q3:=refScan_spec (readF d.files (fileN segs[i])).1 (Nat.le_trans (readF_len _ _) (Nat.le_trans hd.used hu)) segs[i] (by omega)
  have hsl:(scanS (readF d.files (fileN segs[i])).1 segs[i]).1.length<=1000000:=Nat.le_trans (scanS_len _ _) (Nat.le_trans (readF_len _ _) (Nat.le_trans hd.used hu));have hR':=hR (i+1,out++[(segT d segs[i]).1],(segT d segs[i]).1.size) (by simp only[];omega)
  rw[List.drop_eq_getElem_cons c] at h4;unfold segsC at h4;rw[segsT_cons] at h4;have hsn:(out++[(segT d segs[i]).1]).map Seg.enc=out.map Seg.enc++[[.i .i64 segs[i],.i .i64 (((scanS (readF d.files (fileN segs[i])).1 segs[i]).1.length:Nat):Int),.i .i64 (((scanS (readF d.files (fileN segs[i])).1 segs[i]).2.1:Nat):Int)]]:=by
   rw[List.map_append];rfl
  have hsz:(segT d segs[i]).1.size=(((scanS (readF d.files (fileN segs[i])).1 segs[i]).2.1:Nat):Int):=rfl;have hsN:(segT d segs[i]).1.n=(((scanS (readF d.files (fileN segs[i])).1 segs[i]).1.length:Nat):Int):=rfl;have hse:(segT d segs[i]).2=(scanS (readF d.files (fileN segs[i])).1 segs[i]).2.2:=rfl;have hsl2:(out++[(segT d segs[i]).1]).length=out.length+1:=by rw[List.length_append];rfl
  have hwn:=whole_snoc out (segT d segs[i]).1;have hrl:=readF_len d.files (fileN segs[i]);unfold scanV at q3;by_cases c1:(readF d.files (fileN segs[i])).2=0
  ·rw[if_neg (by simp[c1])] at h4
   by_cases c2:i+1<segs.length
   ·have hc2:(i:Int)+1<(segs.length:Int):=by omega
    have g2:(segs.map eI)[i+1]?=some [.i .i64 segs[i+1]]:=by rw[List.getElem?_map,List.getElem?_eq_getElem c2];rfl
    have ei:((i:Int)+1).toNat=i+1:=by omega
    rw[List.drop_eq_getElem_cons c2] at h4;simp only at h4;by_cases c3:(segT d segs[i]).2≠0∨segs[i]+(segT d segs[i]).1.n≠segs[i+1]
    ·rw[if_pos c3] at h4;simp only[Option.map_none] at h4;rw[h4];rw[hse,hsN] at c3;clear hR hR' hsn hsz hsN hse hwn h4;generalize hrf:readF d.files (fileN segs[i])=rf at *;generalize fileN segs[i]=fn at *;generalize segs[i+1]=b2 at *;generalize segs[i]=b at *;generalize hsc:scanS rf.1 b=sc at *;obtain⟨sl,sa,se⟩:=sc;simp only at *;by_cases c4:se=0
     ·have c5:¬ (b+(sl.length:Int)=b2):=by
       rcases c3 with c3|c3
       ·exact absurd c4 c3
       ·exact c3
      subst c4;(simp(disch:=first|decide|omega|(intros;exact Eq.trans rfl rfl)|simp only[puri]) only[wkf,a32_0,decide_eq_true hc,hlm,g1,q1,q2,c1,q3,decide_eq_true hc2,ei,g2,c5,List.length_map,go_sem,seval,dis])
      try simp[trim,segsV]
     ·(simp(disch:=first|decide|omega|(intros;exact Eq.trans rfl rfl)|simp only[puri]) only[wkf,a32_0,decide_eq_true hc,hlm,g1,q1,q2,c1,q3,decide_eq_true hc2,c4,List.length_map,go_sem,seval,dis])
      try simp[trim,segsV]
    ·rw[if_neg c3] at h4;simp only[not_or,Decidable.not_not] at c3;have hK:=hR' ⟨by simp only[];omega,by simp only[];rw[hsl2];omega,by simp only[];rw[hwn],by
      simp only[];rw[h4,List.drop_eq_getElem_cons c2];unfold segsC;rw[Option.map_map];congr 1
      funext x
      simp⟩
     rw[hse,hsN] at c3;simp only[hsn,hsl2,hsz] at hK;clear hR hR' hsn hsz hsN hse hwn h4 hsl2;generalize hrf:readF d.files (fileN segs[i])=rf at *;generalize fileN segs[i]=fn at *;generalize segs[i+1]=b2 at *;generalize segs[i]=b at *;generalize hsc:scanS rf.1 b=sc at *;obtain⟨sl,sa,se⟩:=sc;simp only at *;obtain⟨c4,c5⟩:=c3;subst c4;(simp(disch:=first|decide|omega|(intros;exact Eq.trans rfl rfl)|simp only[puri]) only[wkf,a32_0,decide_eq_true hc,hlm,g1,q1,q2,c1,q3,decide_eq_true hc2,ei,g2,eq_true c5,hol,List.length_map,go_sem,seval,dis])
     exact hK _ _ hdM
   ·have hc2:¬ (i:Int)+1<(segs.length:Int):=by omega
    have hdn:segs.drop (i+1)=[]:=List.drop_eq_nil_of_le (by omega)
    rw[hdn] at h4;simp only[Option.map_some] at h4;have hK:=hR' ⟨by simp only[];omega,by simp only[];rw[hsl2];omega,by simp only[];rw[hwn],by
     simp only[];rw[h4,hdn];simp[segsC,segsT]⟩
    simp only[hsn,hsl2,hsz] at hK;clear hR hR' hsn hsz hsN hse hwn h4 hsl2;generalize hrf:readF d.files (fileN segs[i])=rf at *;generalize fileN segs[i]=fn at *;generalize segs[i]=b at *;generalize hsc:scanS rf.1 b=sc at *;obtain⟨sl,sa,se⟩:=sc;simp only at *;(simp(disch:=first|decide|omega|(intros;exact Eq.trans rfl rfl)|simp only[puri]) only[wkf,a32_0,decide_eq_true hc,hlm,g1,q1,q2,c1,q3,decide_eq_false hc2,hol,List.length_map,go_sem,seval,dis])
    exact hK _ _ hdM
  ·rw[if_pos c1] at h4;simp only[Option.map_none] at h4;rw[h4];clear hR hR' hsn hsz hsN hse hwn h4;generalize hrf:readF d.files (fileN segs[i])=rf at *;(simp(disch:=first|decide|omega|(intros;exact Eq.trans rfl rfl)|simp only[puri]) only[wkf,a32_0,decide_eq_true hc,hlm,g1,q1,q2,c1,List.length_map,go_sem,seval,dis])
   try simp[trim,segsV]
 ·have hc:¬ (i:Int)<(segs.length:Int):=by omega
  rw[List.drop_eq_nil_of_le (by omega)] at h4
  have e:Z=some out:=by rw[h4];simp[segsC,segsT]
  rw[e];have htk:List.take out.length (out.map Seg.enc)=out.map Seg.enc:=List.take_of_length_le (by simp)
  rw[h3];(simp(disch:=first|decide|omega|(intros;exact Eq.trans rfl rfl)|simp only[puri]) only[wkf,a32_0,a32,decide_eq_false hc,hlm,htk,hol,List.length_map,go_sem,seval,dis])
  try simp[trim,segsV]
def deadS (d:Dsk):Sto:=⟨d,0,[],0,0,0,0⟩
def freshT (d:Dsk):Sto × Int:=if(sweepT [] d).2≠0 then(deadS (sweepT [] d).1,(sweepT [] d).2) else createT (sweepT [] d).1
def useS (m:Man):List Txt:=[109]::(if 0<m.segs.headD 0 then[snapN (m.segs.headD 0)] else[])
def useN (m:Man):List Txt:=useS m++m.segs.map fileN
def snapOk (d:Dsk) (m:Man):Bool:=decide (¬ 0<m.segs.headD 0) || (decide ((readF d.files (snapN (m.segs.headD 0))).2=0) && (decide (((readF d.files (snapN (m.segs.headD 0))).1.length:Int)=m.size) && decide (sumT (readF d.files (snapN (m.segs.headD 0))).1=m.sum)))
theorem snapOk_iff {d:Dsk} {m:Man}:snapOk d m=true↔(0<m.segs.headD 0->(readF d.files (snapN (m.segs.headD 0))).2=0∧((readF d.files (snapN (m.segs.headD 0))).1.length:Int)=m.size∧sumT (readF d.files (snapN (m.segs.headD 0))).1=m.sum):=by
 unfold snapOk;generalize m.segs.headD 0=h;by_cases c:0<h
 ·simp only[c,not_true,decide_false,Bool.false_or,Bool.and_eq_true,decide_eq_true_eq,forall_const]
 ·simp[c]
def mendT (d:Dsk) (g:Seg):Dsk × Int :=
 synS (fileN g.base) (if g.size<((readF d.files (fileN g.base)).1.length:Nat) then chgF d (cutR d.files (fileN g.base) g.size) else(d,0))
def openM (d:Dsk) (m:Man) (gs:List Seg):Sto × Int :=
 if(sweepT (useN m) d).2≠0 then(deadS (sweepT (useN m) d).1,(sweepT (useN m) d).2) else
  if(mendT (sweepT (useN m) d).1 (gs.getLastD ⟨0,0,0⟩)).2≠0 then(deadS (mendT (sweepT (useN m) d).1 (gs.getLastD ⟨0,0,0⟩)).1,(mendT (sweepT (useN m) d).1 (gs.getLastD ⟨0,0,0⟩)).2) else
   (⟨(mendT (sweepT (useN m) d).1 (gs.getLastD ⟨0,0,0⟩)).1,m.ver,gs,(gs.getLastD ⟨0,0,0⟩).base+(gs.getLastD ⟨0,0,0⟩).n,(gs.getLastD ⟨0,0,0⟩).base+(gs.getLastD ⟨0,0,0⟩).n,m.size,m.sum⟩,0)
def openR (d:Dsk) (m:Man):Sto × Int:=if snapOk d m=true then(match segsT d m.segs with|some gs=>openM d m gs|none=>(deadS d,3)) else(deadS d,3)
def openT (d:Dsk):Sto × Int :=
 if d.down=true then(deadS d,10) else if(readF d.files [109]).2≠0 then freshT d else match decM (readF d.files [109]).1 with
  | some m=>openR d m
  | none=>(deadS d,3)
theorem goP_okN {k u:Nat}:∀ (l:List Txt) (s:Dsk × Int),okN k u s.1->okN k u (goP l s).1
 | [],s,h=>h
 | n::l,s,h=>goP_okN l _ (del_okN h n)
theorem sweep_ok {k u:Nat} {d:Dsk} (h:okN k u d) (use:List Txt):okN k u (sweepT use d).1:=goP_okN _ _ h
theorem rfresh_spec {k u:Nat} (d:Dsk) (hd:okN k u d) (hk:k<=700000) (hu:u<=700000000000):call 28 [.agg d.l] []=some (stoV (freshT d),[]):=by
 have q1:=rsweep_spec d hd (by omega) (by omega) [] (by decide)
 have k1:=sweep_ok hd [];unfold freshT;generalize sweepT [] d=w at *;have q2:=rnew_spec w.1 k1 (by omega) (by omega)
 have hcell:∀ s:Sto,s.l=[.d (.l (s.disk.files.map Fil.enc)),.d (.i .i64 s.disk.cap),.d (.b s.disk.armed),.d (.i .i64 s.disk.left),.d (.b s.disk.down),.d (.i .i64 s.ver),.d (.l (s.segs.map Seg.enc)),.d (.i .i64 s.next),.d (.i .i64 s.sure),.d (.i .i64 s.size),.d (.i .u32 s.sum)]:=fun _=>rfl
 obtain⟨⟨fl,cp,ar,lf,dn⟩,we⟩:=w;obtain⟨fl0,cp0,ar0,lf0,dn0⟩:=d;simp only[dskV,Dsk.l,stoV,hcell,List.map_nil] at q1 q2 ⊢;apply enterS s28 rfl;by_cases c:we=0
 ·subst c;rw[if_neg (by simp)]
  (simp(disch:=first|decide|omega|(intros;exact Eq.trans rfl rfl)|simp only[puri]) only[wkf,a28,q1,q2,go_sem,seval,dis])
  try simp[trim]
 ·rw[if_pos c];(simp(disch:=first|decide|omega|(intros;exact Eq.trans rfl rfl)|simp only[puri]) only[wkf,a28,q1,c,go_sem,seval,dis])
  try simp[trim,deadS,c]
theorem cut_okN {k u:Nat} {d:Dsk} (h:okN k u d) (g:Seg):okN k u (chgF d (cutR d.files (fileN g.base) g.size)).1:=by
 refine chg_ok h fun h0=>?_
 unfold cutR at h0 ⊢;split at h0
 ·rename_i hh;rw[if_pos hh];split at h0
  ·cases h0
  ·rename_i hc;rw[if_neg hc];obtain⟨hp,he⟩:=has_at hh;refine⟨by rw[upd_len];exact h.len,srt_names (upd_names _ _ _ (fun _=>rfl)) h.srt,?_⟩
   simp only[upd_at hp];have hu:=used_set d.files _ hp { d.files[posF d.files (fileN g.base)] with data:=d.files[posF d.files (fileN g.base)].data.take g.size.toNat,sure:=if g.size<d.files[posF d.files (fileN g.base)].sure then g.size else d.files[posF d.files (fileN g.base)].sure }
   have:=h.used;simp only[List.length_take] at hu;omega
 ·cases h0
theorem mend_ok {k u:Nat} {d:Dsk} (h:okN k u d) (g:Seg):okN k u (mendT d g).1:=by
 unfold mendT;refine syn_ok ?_ _;split
 ·exact cut_okN h g
 ·exact h
theorem head_at {l:List Int} (h:1<=l.length):(l.map eI)[0]?=some [.i .i64 (l.headD 0)]:=by
 cases l with
 | nil=>simp at h
 | cons a r=>rfl
theorem segsT_len:∀ (d:Dsk) (l:List Int) (gs:List Seg),segsT d l=some gs->gs.length=l.length
 | d,[],gs,h=>by simp only[segsT] at h;cases h;rfl
 | d,b::r,gs,h=>by
  rw[segsT_cons] at h;split at h
  ·cases h
  ·cases r with
   | nil=>simp only[Option.some.injEq] at h;subst h;rfl
   | cons c r =>
    simp only at h;split at h
    ·cases h
    ·obtain⟨gs',h1,h2⟩:=Option.map_eq_some_iff.1 h;subst h2;rw[List.length_cons,segsT_len d (c::r) gs' h1];rfl
theorem segsT_bd {k u:Nat} {d:Dsk} (hd:okN k u d):∀ (l:List Int) (gs:List Seg),segsT d l=some gs->∀ g∈gs,g.base∈l∧(0<=g.n∧g.n<=u)∧(0<=g.size)
 | [],gs,h=>by simp only[segsT] at h;cases h;simp
 | b::r,gs,h=>by
  have hone:b∈b::r∧(0<=(segT d b).1.n∧(segT d b).1.n<=u)∧0<=(segT d b).1.size:=by
   have:=Nat.le_trans (scanS_len (readF d.files (fileN b)).1 b) (Nat.le_trans (readF_len _ _) hd.used);refine⟨by simp,⟨?_,?_⟩,?_⟩
   ·show 0<=((_:Nat):Int);omega
   ·show((_:Nat):Int)<=_;omega
   ·show 0<=((_:Nat):Int);omega
  rw[segsT_cons] at h;split at h
  ·cases h
  ·cases r with
   | nil=>simp only[Option.some.injEq] at h;subst h;intro g hg;rw[List.mem_singleton.1 hg];exact hone
   | cons c r =>
    simp only at h;split at h
    ·cases h
    ·obtain⟨gs',h1,h2⟩:=Option.map_eq_some_iff.1 h;subst h2;intro g hg;rcases List.mem_cons.1 hg with rfl|hg
     ·exact hone
     ·have:=segsT_bd hd (c::r) gs' h1 g hg;exact⟨List.mem_cons_of_mem _ this.1,this.2⟩
set_option maxRecDepth 20000 in
set_option maxHeartbeats 8000000 in
theorem ropen_spec {k u:Nat} (d:Dsk) (hd:okN k u d) (hk:k<=700000) (hu:u<=1000000) (hdec:∀ m,decM (readF d.files [109]).1=some m->m.ok):call 11 [.agg d.l] []=some (stoV (openT d),[]):=by
 have hrd:=fun n=>rread_spec d (Nat.le_trans hd.len (by omega)) hd.srt n
 have hcell:∀ s:Sto,s.l=[.d (.l (s.disk.files.map Fil.enc)),.d (.i .i64 s.disk.cap),.d (.b s.disk.armed),.d (.i .i64 s.disk.left),.d (.b s.disk.down),.d (.i .i64 s.ver),.d (.l (s.segs.map Seg.enc)),.d (.i .i64 s.next),.d (.i .i64 s.sure),.d (.i .i64 s.size),.d (.i .u32 s.sum)]:=fun _=>rfl
 have hdl:∀ d:Dsk,d.l=([.d (.l (d.files.map Fil.enc)),.d (.i .i64 d.cap),.d (.b d.armed),.d (.i .i64 d.left),.d (.b d.down)]:List L):=fun _=>rfl
 have hds:∀ d:Dsk,[.d (.l ((deadS d).disk.files.map Fil.enc)),.d (.i .i64 (deadS d).disk.cap),.d (.b (deadS d).disk.armed),.d (.i .i64 (deadS d).disk.left),.d (.b (deadS d).disk.down),.d (.i .i64 (deadS d).ver),.d (.l ((deadS d).segs.map Seg.enc)),.d (.i .i64 (deadS d).next),.d (.i .i64 (deadS d).sure),.d (.i .i64 (deadS d).size),.d (.i .u32 (deadS d).sum)]=([.d (.l (d.files.map Fil.enc)),.d (.i .i64 d.cap),.d (.b d.armed),.d (.i .i64 d.left),.d (.b d.down),.d (.i .i64 0),.d (.l []),.d (.i .i64 0),.d (.i .i64 0),.d (.i .i64 0),.d (.i .u32 0)]:List L):=fun _=>rfl
 unfold openT;apply enterS s11 rfl;by_cases c0:d.down=true
 ·rw[if_pos c0];simp only[stoV,hcell,hds,hdl] at hrd ⊢;rw[c0];(simp(disch:=first|decide|omega|(intros;exact Eq.trans rfl rfl)|simp only[puri]) only[wkf,a11,go_sem,seval,dis])
  try simp[trim]
 ·rw[if_neg c0];have c0':d.down=false:=by simpa using c0
  have q1:=hrd [109];by_cases c1:(readF d.files [109]).2=0
  ·rw[if_neg (by simp[c1])]
   have hrl:=readF_len d.files [109];have hdu:=hd.used;obtain⟨Z,q2,hq2,hq3⟩:=rgetM_spec (readF d.files [109]).1 (by omega) hdec
   cases hdm:decM (readF d.files [109]).1 with
   | none =>
    obtain⟨e,he,rfl⟩:=hq3 hdm;unfold errM zeroM at q2;generalize readF d.files [109]=rf at *;simp only[stoV,hcell,hds,hdl] at q1 ⊢;rw[c0'] at q1 ⊢;(simp(disch:=first|decide|omega|(intros;exact Eq.trans rfl rfl)|simp only[puri]) only[wkf,a11,q1,c1,q2,he,go_sem,seval,dis])
    try simp[trim]
   | some m =>
    have hZ:=hq2 m hdm;subst hZ;have hmb:=manB_t (dec_some hdm).1;have hmi:=incB_mem _ _ hmb.2.2.1;have hmo:=hdec m hdm;have hne:1<=m.segs.length:=hmb.2.1.1;have g0:=head_at hne;have hb0:∀ b∈m.segs,0<=b∧b<=1099511627776:=fun b hb=>by have:=hmi b hb;omega
    have hh:0<=m.segs.headD 0∧m.segs.headD 0<=1099511627776:=by
     cases hs:m.segs with
     | nil=>rw[hs] at hne;simp at hne
     | cons b r=>rw[hs] at hb0;exact hb0 b (by simp)
    have q3:=rsnap_int hh;have q4:=hrd (snapN (m.segs.headD 0));have hr4:=readF_len d.files (snapN (m.segs.headD 0));have q5:=refOf_spec (readF d.files (snapN (m.segs.headD 0))).1 (by omega)
    have q6:=rsegs_spec d hd (by omega) hu m hmb.2.1.2 hb0
    have hgl:=segsT_len d m.segs;have hgb:=segsT_bd hd m.segs;have q7:=rsweep_spec d hd (by omega) (by omega) (useN m) (by unfold useN useS;split <;> simp <;> omega)
    have k7:=sweep_ok hd (useN m);have hlm:(m.segs.map eI).length=m.segs.length:=by simp
    have hml:m.l=([.d (.i .i64 m.ver),.d (.l (m.segs.map eI)),.d (.i .i64 m.size),.d (.i .u32 m.sum)]:List L):=rfl;obtain⟨Z,hZ⟩:∃ Z,Z=openR d m:=⟨_,rfl⟩;show _=some (stoV (openR d m),[]);rw[<- hZ];unfold openR at hZ;unfold manV4 at q2;have hsn:(sumT (readF d.files (snapN (m.segs.headD 0))).1)=(((crcOn 0#32 (readF d.files (snapN (m.segs.headD 0))).1).toNat:Nat):Int):=rfl;by_cases c2:0<m.segs.headD 0
    ·by_cases c3:(readF d.files (snapN (m.segs.headD 0))).2=0
     ·by_cases c4:((readF d.files (snapN (m.segs.headD 0))).1.length:Int)=m.size
      ·by_cases c5:sumT (readF d.files (snapN (m.segs.headD 0))).1=m.sum
       ·rw[if_pos (snapOk_iff.2 fun _=>⟨c3,c4,c5⟩)] at hZ
        have hU:useS m=[[109],snapN (m.segs.headD 0)]:=by unfold useS;rw[if_pos c2]
        rw[hsn] at c5;rw[hml] at q2 q6;simp only[hdl] at q1 q4 q6 q7 ⊢;rw[c0'] at q1 q4 q6 q7 ⊢;obtain⟨cc,hcc⟩:∃ cc:Int,(((crcOn 0#32 (readF d.files (snapN (m.segs.headD 0))).1).toNat:Nat):Int)=cc:=⟨_,rfl⟩;rw[hcc] at q5 c5;cases hsg:segsT d m.segs with
        | none =>
         rw[hsg] at hZ q6;simp only at hZ;subst hZ;unfold segsV at q6;simp only[stoV,hcell,hds];(simp(disch:=first|decide|omega|(intros;exact Eq.trans rfl rfl)|simp only[puri]) only[wkf,a11,q1,c1,q2,g0,decide_eq_true c2,q3,q4,c3,c4,q5,c5,q6,go_sem,seval,dis])
         try simp[trim,c0']
        | some gs =>
         rw[hsg] at hZ q6;simp only at hZ;replace hgl:=hgl gs hsg
         replace hgb:=hgb gs hsg
         simp only[segsV] at q6;(simp(disch:=first|decide|omega|(intros;exact Eq.trans rfl rfl)|simp only[puri]) only[wkf,a11,q1,c1,q2,g0,decide_eq_true c2,q3,q4,c3,c4,q5,c5,q6,go_sem,seval,dis])
         refine loop_boxM (m:=0) (σ:=Nat) (fun i=>m.segs.length-i) (fun i=>i<=m.segs.length) (fun i=>[V.one (.p 0 0),V.one (.p 1 0),V.one (.p 2 0),V.one (.sl 3 1 0 (useS m++(m.segs.take i).map fileN).length),vl (gs.map Seg.enc),vi (wholeT gs),vi i])
          (fun i=>[.cells [.d (.l (d.files.map Fil.enc)),.d (.i .i64 d.cap),.d (.b d.armed),.d (.i .i64 d.left),.d (.b false)],.cells [.ns,.d (.i .i64 0),.d (.b false),.d (.i .i64 0),.d (.b false),.d (.i .i64 0),.ns,.d (.i .i64 0),.d (.i .i64 0),.d (.i .i64 0),.d (.i .u32 0)],.cells [.d (.i .i64 m.ver),.d (.l (m.segs.map eI)),.d (.i .i64 m.size),.d (.i .u32 m.sum)],.arr 1 ((useS m++(m.segs.take i).map fileN).map eT) 0])
          (fun _=>(stoV Z,[])) ?_ 0 (Nat.zero_le _) _ _ (by rw[hU];exact hdM)
         intro i h1 R hR;have hul:(useS m).length<=2:=by unfold useS;split <;> simp
         clear hU;by_cases hi:i<m.segs.length
         ·have hc:(i:Int)<(m.segs.length:Int):=by omega
          have g1:(m.segs.map eI)[i]?=some [.i .i64 m.segs[i]]:=by rw[List.getElem?_map,List.getElem?_eq_getElem hi];rfl
          have qn:=rseg_spec (hb0 _ (List.getElem_mem hi));have hR':=hR (i+1) (by omega) (by omega)
          rw[List.take_succ_eq_append_getElem hi] at hR';have e2:(useS m++(m.segs.take i++[m.segs[i]]).map fileN).map eT=(useS m++(m.segs.take i).map fileN).map eT++[[.s (fileN m.segs[i])]]:=by
           rw[List.map_append,List.map_append,List.map_append];simp[eT]
          have e3:(useS m++(m.segs.take i++[m.segs[i]]).map fileN).length=(useS m++(m.segs.take i).map fileN).length+1:=by simp;omega
          have hlen:((useS m++(m.segs.take i).map fileN).map eT).length=(useS m++(m.segs.take i).map fileN).length:=by simp
          have hl2:(useS m++(m.segs.take i).map fileN).length<=66:=by simp;omega
          rw[e2,e3] at hR';generalize (useS m++(m.segs.take i).map fileN).length=n at *;generalize (useS m++(m.segs.take i).map fileN).map eT=Q at *;(simp(disch:=first|decide|omega|(intros;exact Eq.trans rfl rfl)|simp only[puri]) only[wkf,a11_0,decide_eq_true hc,hlm,g1,qn,hlen,go_sem,seval,dis])
          exact hR' _ _ hdM
         ·have hc:¬ (i:Int)<(m.segs.length:Int):=by omega
          have ht:m.segs.take i=m.segs:=List.take_of_length_le (by omega)
          rw[ht];have hun:useS m++m.segs.map fileN=useN m:=rfl;rw[hun];have htk:List.take (useN m).length ((useN m).map eT)=(useN m).map eT:=List.take_of_length_le (by simp)
          have hln:((useN m).map eT).length=(useN m).length:=by simp
          have hnl:(useN m).length<=66:=by unfold useN;simp;omega
          have hgm:gs≠[]:=by intro h;rw[h] at hgl;simp at hgl;omega
          have hgn:(gs.map Seg.enc).length=gs.length:=by simp
          have gl:(gs.map Seg.enc)[gs.length-1]?=some (gs.getLastD ⟨0,0,0⟩).enc:=by
           rw[List.getElem?_map,<- List.getLast?_eq_getElem?,List.getLastD_eq_getLast?,List.getLast?_eq_some_getLast hgm];rfl
          have ei:((gs.length:Int)-1).toNat=gs.length-1:=by omega
          have hgp:1<=gs.length:=by omega
          have hgq:gs.length<=64:=by omega
          have hwh:wholeT gs=(gs.getLastD ⟨0,0,0⟩).size:=rfl;have hgb':=hgb (gs.getLastD ⟨0,0,0⟩) (by rw[List.getLastD_eq_getLast?,List.getLast?_eq_some_getLast hgm];exact List.getLast_mem hgm)
          unfold openM at hZ;rw[hwh];generalize gs.getLastD ⟨0,0,0⟩=g at *;clear hgb hwh hgm hun hR ht;have hg0:=hb0 _ hgb'.1;have q8:=rseg_spec hg0;have q9:=rread_spec (sweepT (useN m) d).1 (Nat.le_trans k7.len (by omega)) k7.srt (fileN g.base)
          have qc:=rcut_spec (sweepT (useN m) d).1 (k7.ok (by omega) (by omega)) (fileN g.base) g.size
          have kc:=mend_ok k7 g;have qy:=fun d' (h:okN k u d')=>rsync_spec d' (h.ok (by omega) (by omega)) (fileN g.base)
          have hrl9:=readF_len (sweepT (useN m) d).1.files (fileN g.base);have hu9:=k7.used;have ecut:=cut_okN k7 g;unfold mendT synS stp at hZ;simp only at hZ;clear kc hdec hmi hmo hb0;clear q3 q4 q5 q6 hr4 hsn hh;generalize useN m=UN at *;generalize sweepT UN d=w at *;by_cases c8:w.2=0
          ·rw[if_neg (by simp[c8])] at hZ
           have hsz:=hgb'.2.2;have hgn0:=hgb'.2.1;by_cases c9:g.size<((readF w.1.files (fileN g.base)).1.length:Nat)
           ·rw[if_pos c9] at hZ;generalize chgF w.1 (cutR w.1.files (fileN g.base) g.size)=r at *;by_cases ca:r.2=0
            ·rw[if_pos ca] at hZ;have qz:=qy r.1 ecut;clear qy;generalize chgF r.1 (synR r.1.files (fileN g.base))=t at *;by_cases cb:t.2=0
             ·rw[if_neg (by simp[cb])] at hZ
              subst hZ;generalize readF w.1.files (fileN g.base)=rg at *;generalize fileN g.base=fg at *;obtain⟨⟨wf,wc,wa,wl,wd⟩,we⟩:=w;obtain⟨⟨rf',rc,ra,rl,rd⟩,re⟩:=r;obtain⟨⟨tf,tc,ta,tl,td⟩,te⟩:=t;obtain⟨gb,gn,gz⟩:=g;simp only[dskV,Dsk.l,Seg.enc] at *;(simp(disch:=first|decide|omega|(intros;exact Eq.trans rfl rfl)|simp only[puri]) only[wkf,a11_0,a11,decide_eq_false hc,hlm,htk,hln,q7,c8,gl,hgn,ei,q8,q9,decide_eq_true c9,qc,ca,qz,cb,stoV,hcell,go_sem,seval,dis])
              try simp[trim]
             ·rw[if_pos cb] at hZ;subst hZ;generalize readF w.1.files (fileN g.base)=rg at *;generalize fileN g.base=fg at *;obtain⟨⟨wf,wc,wa,wl,wd⟩,we⟩:=w;obtain⟨⟨rf',rc,ra,rl,rd⟩,re⟩:=r;obtain⟨⟨tf,tc,ta,tl,td⟩,te⟩:=t;obtain⟨gb,gn,gz⟩:=g;simp only[dskV,Dsk.l,Seg.enc] at *;(simp(disch:=first|decide|omega|(intros;exact Eq.trans rfl rfl)|simp only[puri]) only[wkf,a11_0,a11,decide_eq_false hc,hlm,htk,hln,q7,c8,gl,hgn,ei,q8,q9,decide_eq_true c9,qc,ca,qz,cb,stoV,hcell,hds,go_sem,seval,dis])
              try simp[trim]
            ·rw[if_neg ca,if_pos ca] at hZ;subst hZ;clear qy;generalize readF w.1.files (fileN g.base)=rg at *;generalize fileN g.base=fg at *;obtain⟨⟨wf,wc,wa,wl,wd⟩,we⟩:=w;obtain⟨⟨rf',rc,ra,rl,rd⟩,re⟩:=r;obtain⟨gb,gn,gz⟩:=g;simp only[dskV,Dsk.l,Seg.enc] at *;(simp(disch:=first|decide|omega|(intros;exact Eq.trans rfl rfl)|simp only[puri]) only[wkf,a11_0,a11,decide_eq_false hc,hlm,htk,hln,q7,c8,gl,hgn,ei,q8,q9,decide_eq_true c9,qc,ca,stoV,hcell,hds,go_sem,seval,dis])
             try simp[trim]
           ·rw[if_neg c9] at hZ;have qz:=qy w.1 k7;clear qy qc ecut;rw[if_pos rfl] at hZ;simp only at hZ;generalize chgF w.1 (synR w.1.files (fileN g.base))=t at *;by_cases cb:t.2=0
            ·rw[if_neg (by simp[cb])] at hZ
             subst hZ;generalize readF w.1.files (fileN g.base)=rg at *;generalize fileN g.base=fg at *;obtain⟨⟨wf,wc,wa,wl,wd⟩,we⟩:=w;obtain⟨⟨tf,tc,ta,tl,td⟩,te⟩:=t;obtain⟨gb,gn,gz⟩:=g;simp only[dskV,Dsk.l,Seg.enc] at *;(simp(disch:=first|decide|omega|(intros;exact Eq.trans rfl rfl)|simp only[puri]) only[wkf,a11_0,a11,decide_eq_false hc,hlm,htk,hln,q7,c8,gl,hgn,ei,q8,q9,decide_eq_false c9,qz,cb,stoV,hcell,go_sem,seval,dis])
             try simp[trim]
            ·rw[if_pos cb] at hZ;subst hZ;generalize readF w.1.files (fileN g.base)=rg at *;generalize fileN g.base=fg at *;obtain⟨⟨wf,wc,wa,wl,wd⟩,we⟩:=w;obtain⟨⟨tf,tc,ta,tl,td⟩,te⟩:=t;obtain⟨gb,gn,gz⟩:=g;simp only[dskV,Dsk.l,Seg.enc] at *;(simp(disch:=first|decide|omega|(intros;exact Eq.trans rfl rfl)|simp only[puri]) only[wkf,a11_0,a11,decide_eq_false hc,hlm,htk,hln,q7,c8,gl,hgn,ei,q8,q9,decide_eq_false c9,qz,cb,stoV,hcell,hds,go_sem,seval,dis])
             try simp[trim]
          ·rw[if_pos c8] at hZ;subst hZ;clear qy qc ecut;obtain⟨⟨wf,wc,wa,wl,wd⟩,we⟩:=w;simp only[dskV,Dsk.l] at *;(simp(disch:=first|decide|omega|(intros;exact Eq.trans rfl rfl)|simp only[puri]) only[wkf,a11_0,a11,decide_eq_false hc,hlm,htk,hln,q7,c8,stoV,hcell,hds,go_sem,seval,dis])
           try simp[trim]
       ·rw[if_neg fun h=>c5 (snapOk_iff.1 h c2).2.2] at hZ
        subst hZ;rw[hsn] at c5;rw[hml] at q2;generalize readF d.files [109]=rf at *;generalize readF d.files (snapN (m.segs.headD 0))=rs at *;generalize snapN (m.segs.headD 0)=sn at *;generalize m.segs.headD 0=h0 at *;simp only[stoV,hcell,hds,hdl] at q1 q4 ⊢;rw[c0'] at q1 q4 ⊢;obtain⟨cc,hcc⟩:∃ cc:Int,(((crcOn 0#32 rs.1).toNat:Nat):Int)=cc:=⟨_,rfl⟩;rw[hcc] at q5 c5;(simp(disch:=first|decide|omega|(intros;exact Eq.trans rfl rfl)|simp only[puri]) only[wkf,a11,q1,c1,q2,g0,decide_eq_true c2,q3,q4,c3,c4,q5,c5,go_sem,seval,dis])
        try simp[trim]
      ·rw[if_neg fun h=>c4 (snapOk_iff.1 h c2).2.1] at hZ
       subst hZ;rw[hml] at q2;generalize readF d.files [109]=rf at *;generalize readF d.files (snapN (m.segs.headD 0))=rs at *;generalize snapN (m.segs.headD 0)=sn at *;generalize m.segs.headD 0=h0 at *;simp only[stoV,hcell,hds,hdl] at q1 q4 ⊢;rw[c0'] at q1 q4 ⊢;(simp(disch:=first|decide|omega|(intros;exact Eq.trans rfl rfl)|simp only[puri]) only[wkf,a11,q1,c1,q2,g0,decide_eq_true c2,q3,q4,c3,c4,go_sem,seval,dis])
       try simp[trim]
     ·rw[if_neg fun h=>c3 (snapOk_iff.1 h c2).1] at hZ
      subst hZ;rw[hml] at q2;generalize readF d.files [109]=rf at *;generalize readF d.files (snapN (m.segs.headD 0))=rs at *;generalize snapN (m.segs.headD 0)=sn at *;generalize m.segs.headD 0=h0 at *;simp only[stoV,hcell,hds,hdl] at q1 q4 ⊢;rw[c0'] at q1 q4 ⊢;(simp(disch:=first|decide|omega|(intros;exact Eq.trans rfl rfl)|simp only[puri]) only[wkf,a11,q1,c1,q2,g0,decide_eq_true c2,q3,q4,c3,go_sem,seval,dis])
      try simp[trim]
    ·rw[if_pos (snapOk_iff.2 fun h=>absurd h c2)] at hZ
     have hU:useS m=[[109]]:=by unfold useS;rw[if_neg c2]
     rw[hml] at q2 q6;simp only[hdl] at q1 q4 q6 q7 ⊢;rw[c0'] at q1 q4 q6 q7 ⊢;cases hsg:segsT d m.segs with
     | none =>
      rw[hsg] at hZ q6;simp only at hZ;subst hZ;unfold segsV at q6;simp only[stoV,hcell,hds];(simp(disch:=first|decide|omega|(intros;exact Eq.trans rfl rfl)|simp only[puri]) only[wkf,a11,q1,c1,q2,g0,decide_eq_false c2,q6,go_sem,seval,dis])
      try simp[trim,c0']
     | some gs =>
      rw[hsg] at hZ q6;simp only at hZ;replace hgl:=hgl gs hsg
      replace hgb:=hgb gs hsg
      simp only[segsV] at q6;(simp(disch:=first|decide|omega|(intros;exact Eq.trans rfl rfl)|simp only[puri]) only[wkf,a11,q1,c1,q2,g0,decide_eq_false c2,q6,go_sem,seval,dis])
      refine loop_boxM (m:=0) (σ:=Nat) (fun i=>m.segs.length-i) (fun i=>i<=m.segs.length) (fun i=>[V.one (.p 0 0),V.one (.p 1 0),V.one (.p 2 0),V.one (.sl 3 1 0 (useS m++(m.segs.take i).map fileN).length),vl (gs.map Seg.enc),vi (wholeT gs),vi i])
       (fun i=>[.cells [.d (.l (d.files.map Fil.enc)),.d (.i .i64 d.cap),.d (.b d.armed),.d (.i .i64 d.left),.d (.b false)],.cells [.ns,.d (.i .i64 0),.d (.b false),.d (.i .i64 0),.d (.b false),.d (.i .i64 0),.ns,.d (.i .i64 0),.d (.i .i64 0),.d (.i .i64 0),.d (.i .u32 0)],.cells [.d (.i .i64 m.ver),.d (.l (m.segs.map eI)),.d (.i .i64 m.size),.d (.i .u32 m.sum)],.arr 1 ((useS m++(m.segs.take i).map fileN).map eT) 0])
       (fun _=>(stoV Z,[])) ?_ 0 (Nat.zero_le _) _ _ (by rw[hU];exact hdM)
      intro i h1 R hR;have hul:(useS m).length<=2:=by unfold useS;split <;> simp
      clear hU;by_cases hi:i<m.segs.length
      ·have hc:(i:Int)<(m.segs.length:Int):=by omega
       have g1:(m.segs.map eI)[i]?=some [.i .i64 m.segs[i]]:=by rw[List.getElem?_map,List.getElem?_eq_getElem hi];rfl
       have qn:=rseg_spec (hb0 _ (List.getElem_mem hi));have hR':=hR (i+1) (by omega) (by omega)
       rw[List.take_succ_eq_append_getElem hi] at hR';have e2:(useS m++(m.segs.take i++[m.segs[i]]).map fileN).map eT=(useS m++(m.segs.take i).map fileN).map eT++[[.s (fileN m.segs[i])]]:=by
        rw[List.map_append,List.map_append,List.map_append];simp[eT]
       have e3:(useS m++(m.segs.take i++[m.segs[i]]).map fileN).length=(useS m++(m.segs.take i).map fileN).length+1:=by simp;omega
       have hlen:((useS m++(m.segs.take i).map fileN).map eT).length=(useS m++(m.segs.take i).map fileN).length:=by simp
       have hl2:(useS m++(m.segs.take i).map fileN).length<=66:=by simp;omega
       rw[e2,e3] at hR';generalize (useS m++(m.segs.take i).map fileN).length=n at *;generalize (useS m++(m.segs.take i).map fileN).map eT=Q at *;(simp(disch:=first|decide|omega|(intros;exact Eq.trans rfl rfl)|simp only[puri]) only[wkf,a11_0,decide_eq_true hc,hlm,g1,qn,hlen,go_sem,seval,dis])
       exact hR' _ _ hdM
      ·have hc:¬ (i:Int)<(m.segs.length:Int):=by omega
       have ht:m.segs.take i=m.segs:=List.take_of_length_le (by omega)
       rw[ht];have hun:useS m++m.segs.map fileN=useN m:=rfl;rw[hun];have htk:List.take (useN m).length ((useN m).map eT)=(useN m).map eT:=List.take_of_length_le (by simp)
       have hln:((useN m).map eT).length=(useN m).length:=by simp
       have hnl:(useN m).length<=66:=by unfold useN;simp;omega
       have hgm:gs≠[]:=by intro h;rw[h] at hgl;simp at hgl;omega
       have hgn:(gs.map Seg.enc).length=gs.length:=by simp
       have gl:(gs.map Seg.enc)[gs.length-1]?=some (gs.getLastD ⟨0,0,0⟩).enc:=by
        rw[List.getElem?_map,<- List.getLast?_eq_getElem?,List.getLastD_eq_getLast?,List.getLast?_eq_some_getLast hgm];rfl
       have ei:((gs.length:Int)-1).toNat=gs.length-1:=by omega
       have hgp:1<=gs.length:=by omega
       have hgq:gs.length<=64:=by omega
       have hwh:wholeT gs=(gs.getLastD ⟨0,0,0⟩).size:=rfl;have hgb':=hgb (gs.getLastD ⟨0,0,0⟩) (by rw[List.getLastD_eq_getLast?,List.getLast?_eq_some_getLast hgm];exact List.getLast_mem hgm)
       unfold openM at hZ;rw[hwh];generalize gs.getLastD ⟨0,0,0⟩=g at *;clear hgb hwh hgm hun hR ht;have hg0:=hb0 _ hgb'.1;have q8:=rseg_spec hg0;have q9:=rread_spec (sweepT (useN m) d).1 (Nat.le_trans k7.len (by omega)) k7.srt (fileN g.base)
       have qc:=rcut_spec (sweepT (useN m) d).1 (k7.ok (by omega) (by omega)) (fileN g.base) g.size
       have kc:=mend_ok k7 g;have qy:=fun d' (h:okN k u d')=>rsync_spec d' (h.ok (by omega) (by omega)) (fileN g.base)
       have hrl9:=readF_len (sweepT (useN m) d).1.files (fileN g.base);have hu9:=k7.used;have ecut:=cut_okN k7 g;unfold mendT synS stp at hZ;simp only at hZ;clear kc hdec hmi hmo hb0;clear q3 q4 q5 q6 hr4 hsn hh;generalize useN m=UN at *;generalize sweepT UN d=w at *;by_cases c8:w.2=0
       ·rw[if_neg (by simp[c8])] at hZ
        have hsz:=hgb'.2.2;have hgn0:=hgb'.2.1;by_cases c9:g.size<((readF w.1.files (fileN g.base)).1.length:Nat)
        ·rw[if_pos c9] at hZ;generalize chgF w.1 (cutR w.1.files (fileN g.base) g.size)=r at *;by_cases ca:r.2=0
         ·rw[if_pos ca] at hZ;have qz:=qy r.1 ecut;clear qy;generalize chgF r.1 (synR r.1.files (fileN g.base))=t at *;by_cases cb:t.2=0
          ·rw[if_neg (by simp[cb])] at hZ
           subst hZ;generalize readF w.1.files (fileN g.base)=rg at *;generalize fileN g.base=fg at *;obtain⟨⟨wf,wc,wa,wl,wd⟩,we⟩:=w;obtain⟨⟨rf',rc,ra,rl,rd⟩,re⟩:=r;obtain⟨⟨tf,tc,ta,tl,td⟩,te⟩:=t;obtain⟨gb,gn,gz⟩:=g;simp only[dskV,Dsk.l,Seg.enc] at *;(simp(disch:=first|decide|omega|(intros;exact Eq.trans rfl rfl)|simp only[puri]) only[wkf,a11_0,a11,decide_eq_false hc,hlm,htk,hln,q7,c8,gl,hgn,ei,q8,q9,decide_eq_true c9,qc,ca,qz,cb,stoV,hcell,go_sem,seval,dis])
           try simp[trim]
          ·rw[if_pos cb] at hZ;subst hZ;generalize readF w.1.files (fileN g.base)=rg at *;generalize fileN g.base=fg at *;obtain⟨⟨wf,wc,wa,wl,wd⟩,we⟩:=w;obtain⟨⟨rf',rc,ra,rl,rd⟩,re⟩:=r;obtain⟨⟨tf,tc,ta,tl,td⟩,te⟩:=t;obtain⟨gb,gn,gz⟩:=g;simp only[dskV,Dsk.l,Seg.enc] at *;(simp(disch:=first|decide|omega|(intros;exact Eq.trans rfl rfl)|simp only[puri]) only[wkf,a11_0,a11,decide_eq_false hc,hlm,htk,hln,q7,c8,gl,hgn,ei,q8,q9,decide_eq_true c9,qc,ca,qz,cb,stoV,hcell,hds,go_sem,seval,dis])
           try simp[trim]
         ·rw[if_neg ca,if_pos ca] at hZ;subst hZ;clear qy;generalize readF w.1.files (fileN g.base)=rg at *;generalize fileN g.base=fg at *;obtain⟨⟨wf,wc,wa,wl,wd⟩,we⟩:=w;obtain⟨⟨rf',rc,ra,rl,rd⟩,re⟩:=r;obtain⟨gb,gn,gz⟩:=g;simp only[dskV,Dsk.l,Seg.enc] at *;(simp(disch:=first|decide|omega|(intros;exact Eq.trans rfl rfl)|simp only[puri]) only[wkf,a11_0,a11,decide_eq_false hc,hlm,htk,hln,q7,c8,gl,hgn,ei,q8,q9,decide_eq_true c9,qc,ca,stoV,hcell,hds,go_sem,seval,dis])
          try simp[trim]
        ·rw[if_neg c9] at hZ;have qz:=qy w.1 k7;clear qy qc ecut;rw[if_pos rfl] at hZ;simp only at hZ;generalize chgF w.1 (synR w.1.files (fileN g.base))=t at *;by_cases cb:t.2=0
         ·rw[if_neg (by simp[cb])] at hZ
          subst hZ;generalize readF w.1.files (fileN g.base)=rg at *;generalize fileN g.base=fg at *;obtain⟨⟨wf,wc,wa,wl,wd⟩,we⟩:=w;obtain⟨⟨tf,tc,ta,tl,td⟩,te⟩:=t;obtain⟨gb,gn,gz⟩:=g;simp only[dskV,Dsk.l,Seg.enc] at *;(simp(disch:=first|decide|omega|(intros;exact Eq.trans rfl rfl)|simp only[puri]) only[wkf,a11_0,a11,decide_eq_false hc,hlm,htk,hln,q7,c8,gl,hgn,ei,q8,q9,decide_eq_false c9,qz,cb,stoV,hcell,go_sem,seval,dis])
          try simp[trim]
         ·rw[if_pos cb] at hZ;subst hZ;generalize readF w.1.files (fileN g.base)=rg at *;generalize fileN g.base=fg at *;obtain⟨⟨wf,wc,wa,wl,wd⟩,we⟩:=w;obtain⟨⟨tf,tc,ta,tl,td⟩,te⟩:=t;obtain⟨gb,gn,gz⟩:=g;simp only[dskV,Dsk.l,Seg.enc] at *;(simp(disch:=first|decide|omega|(intros;exact Eq.trans rfl rfl)|simp only[puri]) only[wkf,a11_0,a11,decide_eq_false hc,hlm,htk,hln,q7,c8,gl,hgn,ei,q8,q9,decide_eq_false c9,qz,cb,stoV,hcell,hds,go_sem,seval,dis])
          try simp[trim]
       ·rw[if_pos c8] at hZ;subst hZ;clear qy qc ecut;obtain⟨⟨wf,wc,wa,wl,wd⟩,we⟩:=w;simp only[dskV,Dsk.l] at *;(simp(disch:=first|decide|omega|(intros;exact Eq.trans rfl rfl)|simp only[puri]) only[wkf,a11_0,a11,decide_eq_false hc,hlm,htk,hln,q7,c8,stoV,hcell,hds,go_sem,seval,dis])
        try simp[trim]
  ·rw[if_pos c1];have q3:=rfresh_spec d hd hk (by omega)
   generalize readF d.files [109]=rf at *;generalize freshT d=r at *;obtain⟨y,e⟩:=r;simp only[stoV,hcell,hdl] at q1 q3 ⊢;rw[c0'] at q1 q3 ⊢;(simp(disch:=first|decide|omega|(intros;exact Eq.trans rfl rfl)|simp only[puri]) only[wkf,a11,q1,c1,q3,go_sem,seval,dis])
   try simp[trim]
abbrev Rows:=List (Txt × Bool)
def opL (d:Dsk) (m:Man) (sg us:L):List L:=[.d (.l (d.files.map Fil.enc)),.d (.i .i64 d.cap),.d (.b d.armed),.d (.i .i64 d.left),.d (.b d.down),.d (.i .i64 m.ver),.d (.l (m.segs.map eI)),.d (.i .i64 m.size),.d (.i .u32 m.sum),sg,us]
theorem set_get (rows:Rows) (n u:Txt):getM (setM rows n true) u=(decide (n=u) || getM rows u):=by
 induction rows with
 | nil=>by_cases h:n=u <;> simp[setM,getM,h]
 | cons r t ih =>
  simp only[setM];by_cases h:r.1=n
  ·rw[if_pos h];simp only[getM];by_cases h2:n=u
   ·simp[h2]
   ·have:¬ r.1=u:=fun e=>h2 (h ▸ e)
    simp[h2,this]
  ·rw[if_neg h];simp only[getM,ih];by_cases h2:r.1=u
   ·have:¬ n=u:=fun e=>h (h2.trans e.symm)
    simp[h2,this]
   ·simp[h2]
def snapU (m:Man) (rows:Rows):Rows:=if m.segs.headD 0=0 then rows else setM rows (snapN (m.segs.headD 0)) true
set_option maxRecDepth 8000 in
set_option maxHeartbeats 2000000 in
theorem osnap_spec {k u:Nat} (d:Dsk) (hd:okN k u d) (hk:k<=700000) (hu:u<=1000000) (m:Man) (hm:manB m=true) (rows:Rows) :
  call 56 [.one (.p 0 0)] [.cells (opL d m .ns (.m 1)),.mp rows]=some (vb (snapOk d m),[.cells (opL d m .ns (.m 1)),.mp (snapU m rows)]):=by
 have hmb:=manB_t hm;have hmi:=incB_mem _ _ hmb.2.2.1;have g0:=head_at hmb.2.1.1;have hh:0<=m.segs.headD 0∧m.segs.headD 0<=1099511627776:=by
  have hne:=hmb.2.1.1;cases hs:m.segs with
  | nil=>rw[hs] at hne;simp at hne
  | cons b r=>rw[hs] at hmi;have:=hmi b (by simp);simp only[List.headD_cons];omega
 have q3:=snap_int hh;have q4:=read_disk d (Nat.le_trans hd.len (by omega)) hd.srt (snapN (m.segs.headD 0))
 have hrl:=readF_len d.files (snapN (m.segs.headD 0));have hdu:=hd.used;have q5:=sum1_spec (readF d.files (snapN (m.segs.headD 0))).1 (by omega)
 unfold snapOk snapU opL;have hlm:(m.segs.map eI).length=m.segs.length:=by simp
 have hln:1<=m.segs.length:=hmb.2.1.1;generalize m.segs.headD 0=f at *;generalize snapN f=N at *;generalize readF d.files N=rf at *;obtain⟨x,e⟩:=rf;simp only[Dsk.l] at q4 q5 ⊢;apply enterS s56 rfl;by_cases c:f=0
 ·subst c;(simp(disch:=first|decide|omega|(intros;exact Eq.trans rfl rfl)|simp only[puri]) only[wkf,a56,g0,hlm,go_sem,seval,dis,vdr,A.kind,A.xs,optX,A.isN])
  try simp[trim,V.refs,L.refs,Box.refs]
 ·have c0:(0<f):=by omega
  rw[if_neg c];by_cases c1:e=0
  ·subst c1;by_cases c2:((x.length:Nat):Int)=m.size
   ·by_cases c3:sumT x=m.sum
    ·(simp(disch:=first|decide|omega|(intros;exact Eq.trans rfl rfl)|simp only[puri]) only[wkf,a56,g0,hlm,q3,q4,↓iso_callzG_e,czG_b,czK_sl,czR_some,q5,c,eq_true c2,eq_true c3,go_sem,seval,dis,vdr,A.kind,A.xs,optX,A.isN])
     simp[trim,V.refs,L.refs,Box.refs,c0,c2,c3]
    ·(simp(disch:=first|decide|omega|(intros;exact Eq.trans rfl rfl)|simp only[puri]) only[wkf,a56,g0,hlm,q3,q4,↓iso_callzG_e,czG_b,czK_sl,czR_some,q5,c,eq_true c2,eq_false c3,go_sem,seval,dis,vdr,A.kind,A.xs,optX,A.isN])
     simp[trim,V.refs,L.refs,Box.refs,c0,c2,c3]
   ·(simp(disch:=first|decide|omega|(intros;exact Eq.trans rfl rfl)|simp only[puri]) only[wkf,a56,g0,hlm,q3,q4,↓iso_callzG_e,czG_b,czK_sl,czR_some,q5,c,eq_false c2,go_sem,seval,dis,vdr,A.kind,A.xs,optX,A.isN])
    simp[trim,V.refs,L.refs,Box.refs,c0,c2]
  ·(simp(disch:=first|decide|omega|(intros;exact Eq.trans rfl rfl)|simp only[puri]) only[wkf,a56,g0,hlm,q3,q4,↓iso_callzG_e,czG_b,czK_sl,czR_some,q5,c,eq_false c1,go_sem,seval,dis,vdr,A.kind,A.xs,optX,A.isN])
   simp[trim,V.refs,L.refs,Box.refs,c0,c1]
def lastB (m:Man) (i:Nat):Bool:=decide ((i:Int)=(m.segs.length:Int)-1)
def fineB (d:Dsk) (m:Man) (i:Nat) (b:Int):Bool:=lastB m i || (decide ((segT d b).2=0) && decide (b+(segT d b).1.n=m.segs.getD (i+1) 0))
set_option maxRecDepth 8000 in
set_option maxHeartbeats 4000000 in
theorem oseg0_spec {k u:Nat} (d:Dsk) (hd:okN k u d) (hk:k<=700000) (hu:u<=1000000) (m:Man) (hm:manB m=true) (rows:Rows) (i:Nat) (hi:i<m.segs.length) :
  call 57 [.one (.p 0 0),vi i] [.cells (opL d m .ns (.m 1)),.mp rows] =
   if(readF d.files (fileN (m.segs[i]))).2≠0 then some (vb false,[.cells (opL d m .ns (.m 1)),.mp (setM rows (fileN m.segs[i]) true)])
   else some (vb (fineB d m i m.segs[i]),[.cells (opL d m (.sl 3 3 0 1) (.m 1)),.mp (setM rows (fileN m.segs[i]) true),.arr 3 [(segT d m.segs[i]).1.enc] 0,.arr 3 [(segT d m.segs[i]).1.enc] 0]):=by
 have hmb:=manB_t hm;have hmi:=incB_mem _ _ hmb.2.2.1;have hbi:=hmi _ (List.getElem_mem hi);have g1:(m.segs.map eI)[i]?=some [.i .i64 m.segs[i]]:=by rw[List.getElem?_map,List.getElem?_eq_getElem hi];rfl
 have q1:=seg_int (show 0<=m.segs[i]∧m.segs[i]<=1099511627776 by omega)
 have q2:=read_disk d (Nat.le_trans hd.len (by omega)) hd.srt (fileN m.segs[i])
 have hrl:=readF_len d.files (fileN m.segs[i]);have hdu:=hd.used;have q3:=scan_spec (readF d.files (fileN m.segs[i])).1 (Nat.le_trans hrl (Nat.le_trans hdu hu)) m.segs[i] (by omega)
 have hsl:=Nat.le_trans (scanS_len (readF d.files (fileN m.segs[i])).1 m.segs[i]) (Nat.le_trans hrl (Nat.le_trans hdu hu));have hlm:(m.segs.map eI).length=m.segs.length:=by simp
 have hml:=hmb.2.1;unfold fineB lastB segT opL;unfold scanV at q3;simp only[Seg.enc] at q3 ⊢;obtain⟨nx,hnx⟩:∃ nx,nx=m.segs.getD (i+1) 0:=⟨_,rfl⟩;have g2:i+1<m.segs.length->(m.segs.map eI)[i+1]?=some [.i .i64 nx]:=fun h=>by
  rw[List.getElem?_map,List.getElem?_eq_getElem h,hnx,List.getD_eq_getElem?_getD,List.getElem?_eq_getElem h];rfl
 rw[<- hnx];obtain⟨ml,hmle⟩:∃ ml,ml=m.segs.length:=⟨_,rfl⟩;rw[<- hmle] at hlm hml hi g2 ⊢;generalize m.segs[i]=b at *;generalize fileN b=N at *;generalize readF d.files N=rf at *;obtain⟨x,e⟩:=rf;simp only at q2 q3 hsl hrl ⊢;generalize scanS x b=sc at *;obtain⟨sl,sa,se⟩:=sc;simp only[Dsk.l] at q2 q3 hsl ⊢;have hw0:((0:Int)<=(i:Int)):=by omega
 by_cases c:e=0
 ·subst c;rw[if_neg (by simp)]
  apply enterS s57 rfl;by_cases c1:(i:Int)=(ml:Int)-1
  ·(simp(disch:=first|decide|omega|(intros;exact Eq.trans rfl rfl)|simp only[puri]) only[wkf,a57,g1,hlm,q1,q2,q3,eq_true c1,List.length_map,go_sem,seval,dis,vdr,A.kind,A.xs,optX,A.isN])
   simp[trim,V.refs,L.refs,Box.refs,c1]
  ·have hi2:i+1<ml:=by omega
   have g2':=g2 hi2;have ei:((i:Int)+1).toNat=i+1:=by omega
   by_cases c2:se=0
   ·subst c2;by_cases c3:b+(sl.length:Int)=nx
    ·(simp(disch:=first|decide|omega|(intros;exact Eq.trans rfl rfl)|simp only[puri]) only[wkf,a57,g1,hlm,q1,q2,q3,eq_false c1,ei,g2',eq_true c3,List.length_map,go_sem,seval,dis,vdr,A.kind,A.xs,optX,A.isN])
     simp[trim,V.refs,L.refs,Box.refs,c1,c3]
    ·(simp(disch:=first|decide|omega|(intros;exact Eq.trans rfl rfl)|simp only[puri]) only[wkf,a57,g1,hlm,q1,q2,q3,eq_false c1,ei,g2',eq_false c3,List.length_map,go_sem,seval,dis,vdr,A.kind,A.xs,optX,A.isN])
     simp[trim,V.refs,L.refs,Box.refs,c1,c3]
   ·(simp(disch:=first|decide|omega|(intros;exact Eq.trans rfl rfl)|simp only[puri]) only[wkf,a57,g1,hlm,q1,q2,q3,eq_false c1,ei,g2',eq_false c2,List.length_map,go_sem,seval,dis,vdr,A.kind,A.xs,optX,A.isN])
    simp[trim,V.refs,L.refs,Box.refs,c1,c2]
 ·rw[if_pos c];apply enterS s57 rfl;(simp(disch:=first|decide|omega|(intros;exact Eq.trans rfl rfl)|simp only[puri]) only[wkf,a57,g1,hlm,q1,q2,eq_false c,go_sem,seval,dis,vdr,A.kind,A.xs,optX,A.isN])
  simp[trim,V.refs,L.refs,Box.refs]
set_option maxRecDepth 8000 in
set_option maxHeartbeats 4000000 in
theorem oseg1_spec {k u:Nat} (d:Dsk) (hd:okN k u d) (hk:k<=700000) (hu:u<=1000000) (m:Man) (hm:manB m=true) (rows:Rows) (i:Nat) (hi:i<m.segs.length) (gs:List Seg) (hgl:gs.length<=64) :
  call 57 [.one (.p 0 0),vi i] [.cells (opL d m (.sl 1 3 0 gs.length) (.m 2)),.arr 3 (gs.map Seg.enc) 0,.mp rows] =
   if(readF d.files (fileN (m.segs[i]))).2≠0 then some (vb false,[.cells (opL d m (.sl 1 3 0 gs.length) (.m 2)),.arr 3 (gs.map Seg.enc) 0,.mp (setM rows (fileN m.segs[i]) true)])
   else some (vb (fineB d m i m.segs[i]),[.cells (opL d m (.sl 4 3 0 (gs.length+1)) (.m 2)),.dead,.mp (setM rows (fileN m.segs[i]) true),.arr 3 [(segT d m.segs[i]).1.enc] 0,.arr 3 (gs.map Seg.enc++[(segT d m.segs[i]).1.enc]) 0]):=by
 have hmb:=manB_t hm;have hmi:=incB_mem _ _ hmb.2.2.1;have hbi:=hmi _ (List.getElem_mem hi);have g1:(m.segs.map eI)[i]?=some [.i .i64 m.segs[i]]:=by rw[List.getElem?_map,List.getElem?_eq_getElem hi];rfl
 have q1:=seg_int (show 0<=m.segs[i]∧m.segs[i]<=1099511627776 by omega)
 have q2:=read_disk d (Nat.le_trans hd.len (by omega)) hd.srt (fileN m.segs[i])
 have hrl:=readF_len d.files (fileN m.segs[i]);have hdu:=hd.used;have q3:=scan_spec (readF d.files (fileN m.segs[i])).1 (Nat.le_trans hrl (Nat.le_trans hdu hu)) m.segs[i] (by omega)
 have hsl:=Nat.le_trans (scanS_len (readF d.files (fileN m.segs[i])).1 m.segs[i]) (Nat.le_trans hrl (Nat.le_trans hdu hu));have hlm:(m.segs.map eI).length=m.segs.length:=by simp
 have hml:=hmb.2.1;have hgm:(gs.map Seg.enc).length=gs.length:=by simp
 generalize gs.map Seg.enc=G at *;generalize gs.length=gl at *;unfold fineB lastB segT opL;unfold scanV at q3;simp only[Seg.enc] at q3 ⊢;obtain⟨nx,hnx⟩:∃ nx,nx=m.segs.getD (i+1) 0:=⟨_,rfl⟩;have g2:i+1<m.segs.length->(m.segs.map eI)[i+1]?=some [.i .i64 nx]:=fun h=>by
  rw[List.getElem?_map,List.getElem?_eq_getElem h,hnx,List.getD_eq_getElem?_getD,List.getElem?_eq_getElem h];rfl
 rw[<- hnx];obtain⟨ml,hmle⟩:∃ ml,ml=m.segs.length:=⟨_,rfl⟩;rw[<- hmle] at hlm hml hi g2 ⊢;generalize m.segs[i]=b at *;generalize fileN b=N at *;generalize readF d.files N=rf at *;obtain⟨x,e⟩:=rf;simp only at q2 q3 hsl hrl ⊢;generalize scanS x b=sc at *;obtain⟨sl,sa,se⟩:=sc;simp only[Dsk.l] at q2 q3 hsl ⊢;have hw0:((0:Int)<=(i:Int)):=by omega
 by_cases c:e=0
 ·subst c;rw[if_neg (by simp)]
  apply enterS s57 rfl;by_cases c1:(i:Int)=(ml:Int)-1
  ·(simp(disch:=first|decide|omega|(intros;exact Eq.trans rfl rfl)|simp only[puri]) only[wkf,a57,g1,hlm,q1,q2,q3,eq_true c1,hgm,List.length_map,go_sem,seval,dis,vdr,A.kind,A.xs,optX,A.isN])
   simp[trim,V.refs,L.refs,Box.refs,c1]
  ·have hi2:i+1<ml:=by omega
   have g2':=g2 hi2;have ei:((i:Int)+1).toNat=i+1:=by omega
   by_cases c2:se=0
   ·subst c2;by_cases c3:b+(sl.length:Int)=nx
    ·(simp(disch:=first|decide|omega|(intros;exact Eq.trans rfl rfl)|simp only[puri]) only[wkf,a57,g1,hlm,q1,q2,q3,eq_false c1,ei,g2',eq_true c3,hgm,List.length_map,go_sem,seval,dis,vdr,A.kind,A.xs,optX,A.isN])
     simp[trim,V.refs,L.refs,Box.refs,c1,c3]
    ·(simp(disch:=first|decide|omega|(intros;exact Eq.trans rfl rfl)|simp only[puri]) only[wkf,a57,g1,hlm,q1,q2,q3,eq_false c1,ei,g2',eq_false c3,hgm,List.length_map,go_sem,seval,dis,vdr,A.kind,A.xs,optX,A.isN])
     simp[trim,V.refs,L.refs,Box.refs,c1,c3]
   ·(simp(disch:=first|decide|omega|(intros;exact Eq.trans rfl rfl)|simp only[puri]) only[wkf,a57,g1,hlm,q1,q2,q3,eq_false c1,ei,g2',eq_false c2,hgm,List.length_map,go_sem,seval,dis,vdr,A.kind,A.xs,optX,A.isN])
    simp[trim,V.refs,L.refs,Box.refs,c1,c2]
 ·rw[if_pos c];apply enterS s57 rfl;(simp(disch:=first|decide|omega|(intros;exact Eq.trans rfl rfl)|simp only[puri]) only[wkf,a57,g1,hlm,q1,q2,eq_false c,hgm,go_sem,seval,dis,vdr,A.kind,A.xs,optX,A.isN])
  simp[trim,V.refs,L.refs,Box.refs]
theorem oseg0_iso {k u:Nat} (d:Dsk) (hd:okN k u d) (hk:k<=700000) (hu:u<=1000000) (m:Man) (hm:manB m=true) (rows:Rows) (i:Nat) (hi:i<m.segs.length) :
  callIso call 57 [.one (.p 0 0),vi i] [.cells (opL d m .ns (.m 1)),.mp rows] =
   if(readF d.files (fileN (m.segs[i]))).2≠0 then some (vb false,[.cells (opL d m .ns (.m 1)),.mp (setM rows (fileN m.segs[i]) true)])
   else some (vb (fineB d m i m.segs[i]),[.cells (opL d m (.sl 3 3 0 1) (.m 1)),.mp (setM rows (fileN m.segs[i]) true),.arr 3 [(segT d m.segs[i]).1.enc] 0,.arr 3 [(segT d m.segs[i]).1.enc] 0]):=by
 have p:=oseg0_spec d hd hk hu m hm rows i hi;by_cases c:(readF d.files (fileN (m.segs[i]))).2=0
 ·rw[if_neg (by simp[c])] at p ⊢
  exact iso_at (ids:=[0,1]) rfl rfl rfl p rfl
 ·rw[if_pos c] at p ⊢;exact iso_at (ids:=[0,1]) rfl rfl rfl p rfl
theorem oseg1_iso {k u:Nat} (d:Dsk) (hd:okN k u d) (hk:k<=700000) (hu:u<=1000000) (m:Man) (hm:manB m=true) (rows:Rows) (i:Nat) (hi:i<m.segs.length) (gs:List Seg) (hgl:gs.length<=64) :
  callIso call 57 [.one (.p 0 0),vi i] [.cells (opL d m (.sl 1 3 0 gs.length) (.m 2)),.arr 3 (gs.map Seg.enc) 0,.mp rows] =
   if(readF d.files (fileN (m.segs[i]))).2≠0 then some (vb false,[.cells (opL d m (.sl 1 3 0 gs.length) (.m 2)),.arr 3 (gs.map Seg.enc) 0,.mp (setM rows (fileN m.segs[i]) true)])
   else some (vb (fineB d m i m.segs[i]),[.cells (opL d m (.sl 4 3 0 (gs.length+1)) (.m 2)),.dead,.mp (setM rows (fileN m.segs[i]) true),.arr 3 [(segT d m.segs[i]).1.enc] 0,.arr 3 (gs.map Seg.enc++[(segT d m.segs[i]).1.enc]) 0]):=by
 have p:=oseg1_spec d hd hk hu m hm rows i hi gs hgl;by_cases c:(readF d.files (fileN (m.segs[i]))).2=0
 ·rw[if_neg (by simp[c])] at p ⊢
  exact iso_at (ids:=[0,1,2]) rfl rfl rfl p rfl
 ·rw[if_pos c] at p ⊢;exact iso_at (ids:=[0,1,2]) rfl rfl rfl p rfl
def opL0 (d:Dsk):List L:=[.d (.l (d.files.map Fil.enc)),.d (.i .i64 d.cap),.d (.b d.armed),.d (.i .i64 d.left),.d (.b d.down),.d (.i .i64 0),.ns,.d (.i .i64 0),.d (.i .u32 0),.ns,.nm]
def rdH (d:Dsk) (m:Man) (gs:List Seg) (rows:Rows):Hp:=match gs with
 | []=>[.cells (opL d m .ns (.m 1)),.mp rows]
 | g::r=>[.cells (opL d m (.sl 1 3 0 (r.length+1)) (.m 2)),.arr 3 ((g::r).map Seg.enc) 0,.mp rows]
theorem rdH_app (d:Dsk) (m:Man) (gs:List Seg) (x:Seg) (rows:Rows):rdH d m (gs++[x]) rows=[.cells (opL d m (.sl 1 3 0 (gs.length+1)) (.m 2)),.arr 3 (gs.map Seg.enc++[x.enc]) 0,.mp rows]:=by
 cases gs with
 | nil=>rfl
 | cons g r =>
  have e:rdH d m ((g::r)++[x]) rows=[.cells (opL d m (.sl 1 3 0 ((r++[x]).length+1)) (.m 2)),.arr 3 ((g::(r++[x])).map Seg.enc) 0,.mp rows]:=rfl;rw[e];simp
theorem rdH_at (d:Dsk) (m:Man) (gs:List Seg) (rows:Rows) (h:1<=gs.length):rdH d m gs rows=[.cells (opL d m (.sl 1 3 0 gs.length) (.m 2)),.arr 3 (gs.map Seg.enc) 0,.mp rows]:=by
 cases gs with
 | nil=>simp at h
 | cons g r=>rfl
def segsQ (d:Dsk) (m:Man) (z:V × Hp):Prop:=match segsT d m.segs with
 | some gs=>∃ rows:Rows,(∀ u,getM rows u=keepF (useN m) u)∧z=(vb true,[.cells (opL d m (.sl 1 3 0 gs.length) (.m 2)),.arr 3 (gs.map Seg.enc) 0,.mp rows])
 | none=>∃ (b:Box) (T:Hp),z=(vb false,b::T)
theorem segsT_step (d:Dsk) (m:Man) (gs:List Seg) (h:gs.length<m.segs.length) (hi:segsC d gs (m.segs.drop gs.length)=segsT d m.segs) :
  ((readF d.files (fileN m.segs[gs.length])).2≠0->segsT d m.segs=none) ∧
  ((readF d.files (fileN m.segs[gs.length])).2=0->fineB d m gs.length m.segs[gs.length]=false->segsT d m.segs=none) ∧
  ((readF d.files (fileN m.segs[gs.length])).2=0->fineB d m gs.length m.segs[gs.length]=true->segsC d (gs++[(segT d m.segs[gs.length]).1]) (m.segs.drop (gs.length+1))=segsT d m.segs):=by
 rw[<- hi,List.drop_eq_getElem_cons h];unfold segsC;rw[segsT_cons];refine⟨fun c=>by rw[if_pos c];rfl,fun c1 c2=>?_,fun c1 c2=>?_⟩
 ·rw[if_neg (by simp[c1])]
  unfold fineB lastB at c2;simp only[Bool.or_eq_false_iff,Bool.and_eq_false_iff,decide_eq_false_iff_not] at c2;have h2:gs.length+1<m.segs.length:=by omega
  rw[List.drop_eq_getElem_cons h2];simp only;rw[List.getD_eq_getElem?_getD,List.getElem?_eq_getElem h2] at c2;rw[if_pos (by simpa using c2.2)]
  try rfl
 ·rw[if_neg (by simp[c1])]
  unfold fineB lastB at c2;simp only[Bool.or_eq_true,Bool.and_eq_true,decide_eq_true_eq] at c2;by_cases h2:gs.length+1<m.segs.length
  ·rcases c2 with c2|c2
   ·omega
   ·rw[List.getD_eq_getElem?_getD,List.getElem?_eq_getElem h2] at c2;have e:=List.drop_eq_getElem_cons h2;rw[e];simp only;rw[if_neg (by simpa using c2),<- e,Option.map_map]
    congr 1
    funext x
    simp
  ·rw[List.drop_eq_nil_of_le (by omega)]
   simp[segsT]
theorem rows_step {m:Man} {rows:Rows} {i:Nat} (h:i<m.segs.length) (hr:∀ u,getM rows u=keepF (useS m++(m.segs.take i).map fileN) u):∀ u,getM (setM rows (fileN m.segs[i]) true) u=keepF (useS m++(m.segs.take (i+1)).map fileN) u:=by
 intro u;rw[set_get,hr,List.take_succ_eq_append_getElem h,List.map_append,<- List.append_assoc];unfold keepF;rw[List.any_append,List.any_append,List.any_append];simp only[List.map_cons,List.map_nil,List.any_cons,List.any_nil,Bool.or_false];rw[Bool.or_comm]
theorem rows_snap {m:Man} (hh:0<=m.segs.headD 0):∀ u,getM (snapU m (setM [] [109] true)) u=keepF (useS m++(m.segs.take 0).map fileN) u:=by
 intro u;unfold snapU useS keepF;by_cases c:m.segs.headD 0=0
 ·rw[if_pos c,if_neg (by omega),set_get]
  simp[getM]
 ·rw[if_neg c,if_pos (by omega),set_get,set_get]
  simp[getM,Bool.or_comm]
def readQ (d:Dsk) (s:Txt) (z:V × Hp):Prop:=match decM s with
 | some m=>if snapOk d m=true then segsQ d m z else ∃ (b:Box) (T:Hp),z=(vb false,b::T)
 | none=>∃ (b:Box) (T:Hp),z=(vb false,b::T)
set_option maxRecDepth 8000 in
set_option maxHeartbeats 8000000 in
theorem oread_spec {k u:Nat} (d:Dsk) (hd:okN k u d) (hk:k<=700000) (hu:u<=1000000) (s:Txt) (hs:s.length<=1000000) :
  ∃ z,call 25 [.one (.p 0 0),vs s] [.cells (opL0 d)]=some z∧readQ d s z:=by
 obtain⟨Z,q1,q2,q3⟩:=getM_spec s hs;apply enterE s25 rfl;unfold readQ;cases hdm:decM s with
 | none =>
  obtain⟨e,he,rfl⟩:=q3 hdm;unfold errM zeroM at q1;simp only[opL0];(simp(disch:=first|decide|omega|(intros;exact Eq.trans rfl rfl)|simp only[puri]) only[wkf,a25,q1,he,go_sem,seval,dis,vdr,A.kind,A.xs,optX,A.isN])
  exact⟨_,rfl,_,_,by simp[trim,V.refs,L.refs,Box.refs];exact⟨rfl,rfl⟩⟩
 | some m =>
  have hZ:=q2 m hdm;subst hZ;have hm:=(dec_some hdm).1;have hmb:=manB_t hm;have hmi:=incB_mem _ _ hmb.2.2.1;have hne:=hmb.2.1;have hh:0<=m.segs.headD 0:=by
   cases hs:m.segs with
   | nil=>simp
   | cons b r=>rw[hs] at hmi;have:=hmi b (by simp);simp only[List.headD_cons];omega
  have p1:=osnap_spec d hd hk hu m hm (setM [] [109] true);have hrs:=rows_snap hh;have e2:∀ B:Box,callIso call 56 [.one (.p 0 0)] [.cells (opL d m .ns (.m 2)),B,.mp (setM [] [109] true)]=some (vb (snapOk d m),[.cells (opL d m .ns (.m 2)),B,.mp (snapU m (setM [] [109] true))]):=fun B =>
   iso_at (ids:=[0,2]) rfl rfl rfl p1 rfl
  have hml:m.l=[.d (.i .i64 m.ver),.d (.l (m.segs.map eI)),.d (.i .i64 m.size),.d (.i .u32 m.sum)]:=rfl;have hlm:(m.segs.map eI).length=m.segs.length:=by simp
  unfold manV4 at q1;rw[hml] at q1;simp only[opL0];simp only[opL] at e2;generalize snapU m (setM [] [109] true)=rw0 at *;cases hso:snapOk d m with
  | false =>
   rw[hso] at e2;simp only[Bool.false_eq_true,if_false];(simp(disch:=first|decide|omega|(intros;exact Eq.trans rfl rfl)|simp only[puri]) only[wkf,a25,q1,e2,go_sem,seval,dis,vdr,A.kind,A.xs,optX,A.isN])
   exact⟨_,rfl,_,_,by simp[trim,V.refs,L.refs,Box.refs];exact⟨rfl,rfl⟩⟩
  | true =>
   rw[hso] at e2;simp only[if_true];(simp(disch:=first|decide|omega|(intros;exact Eq.trans rfl rfl)|simp only[puri]) only[wkf,a25,q1,e2,hlm,go_sem,seval,dis,vdr,A.kind,A.xs,optX,A.isN])
   refine loop_ex (m:=1) (σ:=List Seg × Rows) (fun t=>m.segs.length-t.1.length) (fun t=>t.1.length<=m.segs.length∧segsC d t.1 (m.segs.drop t.1.length)=segsT d m.segs∧∀ u,getM t.2 u=keepF (useS m++(m.segs.take t.1.length).map fileN) u)
    (fun t=>[.one (.p 0 0),vi m.segs.length,vi t.1.length]) (fun t=>rdH d m t.1 t.2) (segsQ d m) ?_ ([],rw0) ⟨Nat.zero_le _,by simp[segsC],hrs⟩ _ _ ?_
   rotate_left
   ·exact hdM
   rintro⟨gs,rows⟩ ⟨h1,h2,h3⟩ R hR;simp only at h1 h2 h3 ⊢;by_cases c:gs.length<m.segs.length
   ·have hc:((gs.length:Nat):Int)<(m.segs.length:Int):=by omega
    have hst:=segsT_step d m gs c h2;have hrw:=rows_step c h3;have hR':=hR (gs++[(segT d m.segs[gs.length]).1],setM rows (fileN m.segs[gs.length]) true);simp only[rdH_app,List.length_append,List.length_cons,List.length_nil,Nat.zero_add] at hR';by_cases h0:gs=[]
    ·subst h0;have hz0:((0:Nat):Int)=0:=rfl;have p2:=oseg0_iso d hd hk hu m hm rows 0 c;simp only[List.length_nil,Nat.zero_add,List.map_nil,List.nil_append] at hst hrw hR' p2 ⊢;simp only[rdH,opL] at p2 hR' ⊢;simp only[hz0] at p2 hc ⊢;by_cases c1:(readF d.files (fileN m.segs[0])).2=0
     ·rw[if_neg (by simp[c1])] at p2
      cases c2:fineB d m 0 m.segs[0] with
      | false =>
       have hno:=hst.2.1 c1 c2;rw[c2] at p2;clear hR hR' hst;generalize setM rows (fileN m.segs[0]) true=rows2 at *;generalize (segT d m.segs[0]).1.enc=x at *;(simp(disch:=first|decide|omega|(intros;exact Eq.trans rfl rfl)|simp only[puri]) only[wkf,a25_0,decide_eq_true hc,p2,go_sem,seval,dis,vdr,A.kind,A.xs,optX,A.isN])
       refine⟨_,rfl,?_⟩;unfold segsQ;rw[hno];exact⟨_,_,by simp[trim,V.refs,L.refs,Box.refs];exact⟨rfl,rfl⟩⟩
      | true =>
       have hyes:=hst.2.2 c1 c2;rw[c2] at p2;have hK:=hR' (by omega) ⟨by omega,hyes,hrw⟩
       clear hR hR' hst hyes hrw;generalize setM rows (fileN m.segs[0]) true=rows2 at *;generalize (segT d m.segs[0]).1.enc=x at *;(simp(disch:=first|decide|omega|(intros;exact Eq.trans rfl rfl)|simp only[puri]) only[wkf,a25_0,decide_eq_true hc,p2,go_sem,seval,dis,vdr,A.kind,A.xs,optX,A.isN])
       exact hK _ _ hdM
     ·rw[if_pos c1] at p2;have hno:=hst.1 c1;clear hR hR' hst;generalize setM rows (fileN m.segs[0]) true=rows2 at *;(simp(disch:=first|decide|omega|(intros;exact Eq.trans rfl rfl)|simp only[puri]) only[wkf,a25_0,decide_eq_true hc,p2,go_sem,seval,dis,vdr,A.kind,A.xs,optX,A.isN])
      refine⟨_,rfl,?_⟩;unfold segsQ;rw[hno];exact⟨_,_,by simp[trim,V.refs,L.refs,Box.refs];exact⟨rfl,rfl⟩⟩
    ·have hg1:1<=gs.length:=List.length_pos_iff.2 h0;rw[rdH_at d m gs rows hg1];have p2:=oseg1_iso d hd hk hu m hm rows gs.length c gs (by omega)
     have hgm:(gs.map Seg.enc).length=gs.length:=by simp
     simp only[opL] at p2 hR' ⊢;by_cases c1:(readF d.files (fileN m.segs[gs.length])).2=0
     ·rw[if_neg (by simp[c1])] at p2
      cases c2:fineB d m gs.length m.segs[gs.length] with
      | false =>
       have hno:=hst.2.1 c1 c2;rw[c2] at p2;clear hR hR' hst;generalize setM rows (fileN m.segs[gs.length]) true=rows2 at *;generalize (segT d m.segs[gs.length]).1.enc=x at *;generalize gs.map Seg.enc=G at *;(simp(disch:=first|decide|omega|(intros;exact Eq.trans rfl rfl)|simp only[puri]) only[wkf,a25_0,decide_eq_true hc,p2,go_sem,seval,dis,vdr,A.kind,A.xs,optX,A.isN])
       refine⟨_,rfl,?_⟩;unfold segsQ;rw[hno];exact⟨_,_,by simp[trim,V.refs,L.refs,Box.refs];exact⟨rfl,rfl⟩⟩
      | true =>
       have hyes:=hst.2.2 c1 c2;rw[c2] at p2;have hK:=hR' (by omega) ⟨by omega,hyes,hrw⟩
       clear hR hR' hst hyes hrw;generalize setM rows (fileN m.segs[gs.length]) true=rows2 at *;generalize (segT d m.segs[gs.length]).1.enc=x at *;generalize gs.map Seg.enc=G at *;(simp(disch:=first|decide|omega|(intros;exact Eq.trans rfl rfl)|simp only[puri]) only[wkf,a25_0,decide_eq_true hc,p2,go_sem,seval,dis,vdr,A.kind,A.xs,optX,A.isN])
       exact hK _ _ hdM
     ·rw[if_pos c1] at p2;have hno:=hst.1 c1;clear hR hR' hst;generalize setM rows (fileN m.segs[gs.length]) true=rows2 at *;generalize gs.map Seg.enc=G at *;(simp(disch:=first|decide|omega|(intros;exact Eq.trans rfl rfl)|simp only[puri]) only[wkf,a25_0,decide_eq_true hc,p2,go_sem,seval,dis,vdr,A.kind,A.xs,optX,A.isN])
      refine⟨_,rfl,?_⟩;unfold segsQ;rw[hno];exact⟨_,_,by simp[trim,V.refs,L.refs,Box.refs];exact⟨rfl,rfl⟩⟩
   ·have hc:¬ ((gs.length:Nat):Int)<(m.segs.length:Int):=by omega
    have hgl:gs.length=m.segs.length:=by omega
    rw[hgl,List.drop_eq_nil_of_le (Nat.le_refl _)] at h2;rw[hgl,List.take_length] at h3;have h4:segsT d m.segs=some gs:=by rw[<- h2];simp[segsC,segsT]
    clear hR;rw[rdH_at d m gs rows (by omega)]
    simp only[opL];(simp(disch:=first|decide|omega|(intros;exact Eq.trans rfl rfl)|simp only[puri]) only[wkf,a25_0,a25,decide_eq_false hc,go_sem,seval,dis,vdr,A.kind,A.xs,optX,A.isN])
    refine⟨_,rfl,?_⟩;unfold segsQ;rw[h4];refine⟨rows,h3,?_⟩;simp[trim,V.refs,L.refs,Box.refs,opL]
theorem keep_nil (n:Txt):keepF [] n=false:=rfl
set_option maxRecDepth 8000 in
set_option maxHeartbeats 4000000 in
theorem sweep0_spec {k u:Nat} (d:Dsk) (hd:okN k u d) (hk:k<=700000) (hu:u<=900000000000):call 23 [.one (.p 0 0)] [.cells (opL0 d)]=some (vi (sweepT [] d).2,[.cells (opL0 (sweepT [] d).1)]):=by
 have q1:=pnames_spec d (Nat.le_trans hd.len (by omega))
 obtain⟨Z,hZ⟩:∃ Z,Z=sweepT [] d:=⟨_,rfl⟩;rw[<- hZ];unfold sweepT at hZ;have hnl:(namesF d.files).length<=1000000:=by have:=hd.len;simp[namesF];omega
 obtain⟨⟨zfl,zcp,zar,zlf,zdn⟩,ze⟩:=Z;generalize namesF d.files=NL at *;simp only[Dsk.l,opL0] at q1 ⊢;have hml:(NL.map eT).length=NL.length:=by simp
 apply enterS s23 rfl;(simp(disch:=first|decide|omega|(intros;exact Eq.trans rfl rfl)|simp only[puri]) only[wkf,a23,q1,hml,go_sem,seval,dis])
 refine loop_boxM (m:=1) (σ:=Nat × Dsk) (fun t=>NL.length-t.1) (fun t=>t.1<=NL.length∧okN k u t.2∧sweepG [] (NL.drop t.1) (t.2,0)=(⟨zfl,zcp,zar,zlf,zdn⟩,ze)) (fun t=>[V.one (.p 0 0),vl (NL.map eT),vi NL.length,vi t.1])
  (fun t=>[.cells [.d (.l (t.2.files.map Fil.enc)),.d (.i .i64 t.2.cap),.d (.b t.2.armed),.d (.i .i64 t.2.left),.d (.b t.2.down),.d (.i .i64 0),.ns,.d (.i .i64 0),.d (.i .u32 0),.ns,.nm]])
  (fun _=>((vi ze,[.cells [.d (.l (zfl.map Fil.enc)),.d (.i .i64 zcp),.d (.b zar),.d (.i .i64 zlf),.d (.b zdn),.d (.i .i64 0),.ns,.d (.i .i64 0),.d (.i .u32 0),.ns,.nm]]):V × Hp)) ?_ (0,d) ⟨Nat.zero_le _,hd,hZ.symm⟩ _ _ ?_
 rotate_left
 ·exact hdM
 rintro⟨i,dd⟩ ⟨h1,h2,h3⟩ R hR;simp only at h1 h2 h3 ⊢;by_cases c:i<NL.length
 ·have hc:(i:Int)<(NL.length:Int):=by omega
  rw[List.drop_eq_getElem_cons c,sweepG_cons] at h3;have g1:(NL.map eT)[i]?=some [.s NL[i]]:=by rw[List.getElem?_map,List.getElem?_eq_getElem c];rfl
  generalize NL[i]=n at *;cases hkp:keepF [] n with
  | true =>
   rw[keep_nil] at hkp;cases hkp
  | false =>
   rw[hkp,if_neg (by simp)] at h3
   have g2:=delete_spec dd (h2.ok (by omega) (by omega)) n
   have kk:=del_okN (s:=(dd,0)) h2 n;rw[show delS n (dd,0)=chgF dd (delR dd.files n) from stp_ye _ _] at kk h3
   have hRn:=fun h=>hR (i+1,(chgF dd (delR dd.files n)).1) (by simp only[];omega) ⟨by simp only[];omega,kk,h⟩
   generalize chgF dd (delR dd.files n)=q at *;obtain⟨⟨qfl,qcp,qar,qlf,qdn⟩,qe⟩:=q;obtain⟨fl,cp,ar,lf,dn⟩:=dd;simp only[dskV,Dsk.l] at g2 h3 hRn ⊢;clear hR;by_cases c2:qe=0
   ·subst c2;(simp(disch:=first|decide|omega|(intros;exact Eq.trans rfl rfl)|simp only[puri]) only[wkf,a23_0,decide_eq_true hc,g1,g2,go_sem,seval,dis])
    exact hRn h3 _ _ hdM
   ·have e:sweepG [] (NL.drop (i+1)) (⟨qfl,qcp,qar,qlf,qdn⟩,qe)=(⟨qfl,qcp,qar,qlf,qdn⟩,qe):=goP_err _ _ c2;rw[e] at h3;cases h3;(simp(disch:=first|decide|omega|(intros;exact Eq.trans rfl rfl)|simp only[puri]) only[wkf,a23_0,decide_eq_true hc,g1,g2,eq_false c2,go_sem,seval,dis])
    try simp[trim,V.refs,L.refs,Box.refs]
 ·have hc:¬ (i:Int)<(NL.length:Int):=by omega
  rw[List.drop_eq_nil_of_le (by omega)] at h3
  cases h3;(simp(disch:=first|decide|omega|(intros;exact Eq.trans rfl rfl)|simp only[puri]) only[wkf,a23_0,a23,decide_eq_false hc,go_sem,seval,dis])
  try simp[trim,V.refs,L.refs,Box.refs]
set_option maxRecDepth 8000 in
set_option maxHeartbeats 4000000 in
theorem sweep1_spec {k u:Nat} (d:Dsk) (hd:okN k u d) (hk:k<=700000) (hu:u<=900000000000) (m:Man) (n0:Nat) (G:List (List D)) (rows:Rows) (use:List Txt) (hr:∀ v,getM rows v=keepF use v):call 23 [.one (.p 0 0)] [.cells (opL d m (.sl 1 3 0 n0) (.m 2)),.arr 3 G 0,.mp rows]=some (vi (sweepT use d).2,[.cells (opL (sweepT use d).1 m (.sl 1 3 0 n0) (.m 2)),.arr 3 G 0,.mp rows]):=by
 have q1:=pnames_spec d (Nat.le_trans hd.len (by omega))
 obtain⟨Z,hZ⟩:∃ Z,Z=sweepT use d:=⟨_,rfl⟩;rw[<- hZ];unfold sweepT at hZ;have hnl:(namesF d.files).length<=1000000:=by have:=hd.len;simp[namesF];omega
 obtain⟨⟨zfl,zcp,zar,zlf,zdn⟩,ze⟩:=Z;generalize namesF d.files=NL at *;simp only[Dsk.l,opL] at q1 ⊢;have hml:(NL.map eT).length=NL.length:=by simp
 apply enterS s23 rfl;(simp(disch:=first|decide|omega|(intros;exact Eq.trans rfl rfl)|simp only[puri]) only[wkf,a23,q1,hml,go_sem,seval,dis])
 refine loop_boxM (m:=3) (σ:=Nat × Dsk) (fun t=>NL.length-t.1) (fun t=>t.1<=NL.length∧okN k u t.2∧sweepG use (NL.drop t.1) (t.2,0)=(⟨zfl,zcp,zar,zlf,zdn⟩,ze)) (fun t=>[V.one (.p 0 0),vl (NL.map eT),vi NL.length,vi t.1])
  (fun t=>[.cells [.d (.l (t.2.files.map Fil.enc)),.d (.i .i64 t.2.cap),.d (.b t.2.armed),.d (.i .i64 t.2.left),.d (.b t.2.down),.d (.i .i64 m.ver),.d (.l (m.segs.map eI)),.d (.i .i64 m.size),.d (.i .u32 m.sum),.sl 1 3 0 n0,.m 2],.arr 3 G 0,.mp rows])
  (fun _=>((vi ze,[.cells [.d (.l (zfl.map Fil.enc)),.d (.i .i64 zcp),.d (.b zar),.d (.i .i64 zlf),.d (.b zdn),.d (.i .i64 m.ver),.d (.l (m.segs.map eI)),.d (.i .i64 m.size),.d (.i .u32 m.sum),.sl 1 3 0 n0,.m 2],.arr 3 G 0,.mp rows]):V × Hp)) ?_ (0,d) ⟨Nat.zero_le _,hd,hZ.symm⟩ _ _ ?_
 rotate_left
 ·exact hdM
 rintro⟨i,dd⟩ ⟨h1,h2,h3⟩ R hR;simp only at h1 h2 h3 ⊢;by_cases c:i<NL.length
 ·have hc:(i:Int)<(NL.length:Int):=by omega
  rw[List.drop_eq_getElem_cons c,sweepG_cons] at h3;have g1:(NL.map eT)[i]?=some [.s NL[i]]:=by rw[List.getElem?_map,List.getElem?_eq_getElem c];rfl
  generalize NL[i]=n at *;cases hkp:keepF use n with
  | true =>
   rw[hkp,if_pos rfl] at h3;have hmg:=(hr n).trans hkp;have hRk:=hR (i+1,dd) (by simp only[];omega) ⟨by simp only[];omega,h2,h3⟩
   (simp(disch:=first|decide|omega|(intros;exact Eq.trans rfl rfl)|simp only[puri]) only[wkf,a23_0,decide_eq_true hc,g1,hmg,go_sem,seval,dis])
   exact hRk _ _ hdM
  | false =>
   rw[hkp,if_neg (by simp)] at h3
   have g2:=delete_spec dd (h2.ok (by omega) (by omega)) n
   have kk:=del_okN (s:=(dd,0)) h2 n;rw[show delS n (dd,0)=chgF dd (delR dd.files n) from stp_ye _ _] at kk h3
   have hRn:=fun h=>hR (i+1,(chgF dd (delR dd.files n)).1) (by simp only[];omega) ⟨by simp only[];omega,kk,h⟩
   generalize chgF dd (delR dd.files n)=q at *;obtain⟨⟨qfl,qcp,qar,qlf,qdn⟩,qe⟩:=q;obtain⟨fl,cp,ar,lf,dn⟩:=dd;simp only[dskV,Dsk.l] at g2 h3 hRn ⊢;have hmg:=(hr n).trans hkp;clear hR;by_cases c2:qe=0
   ·subst c2;(simp(disch:=first|decide|omega|(intros;exact Eq.trans rfl rfl)|simp only[puri]) only[wkf,a23_0,decide_eq_true hc,g1,g2,hmg,go_sem,seval,dis])
    exact hRn h3 _ _ hdM
   ·have e:sweepG use (NL.drop (i+1)) (⟨qfl,qcp,qar,qlf,qdn⟩,qe)=(⟨qfl,qcp,qar,qlf,qdn⟩,qe):=goP_err _ _ c2;rw[e] at h3;cases h3;(simp(disch:=first|decide|omega|(intros;exact Eq.trans rfl rfl)|simp only[puri]) only[wkf,a23_0,decide_eq_true hc,g1,g2,eq_false c2,hmg,go_sem,seval,dis])
    try simp[trim,V.refs,L.refs,Box.refs]
 ·have hc:¬ (i:Int)<(NL.length:Int):=by omega
  rw[List.drop_eq_nil_of_le (by omega)] at h3
  cases h3;(simp(disch:=first|decide|omega|(intros;exact Eq.trans rfl rfl)|simp only[puri]) only[wkf,a23_0,a23,decide_eq_false hc,go_sem,seval,dis])
  try simp[trim,V.refs,L.refs,Box.refs]
end Go.Proofs.YtghfhomfppbooaaGreat
