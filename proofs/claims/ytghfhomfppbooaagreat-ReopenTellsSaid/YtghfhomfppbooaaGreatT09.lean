import Derived.Test.YtghfhomfppbooaaGreatT08
import Derived.Test.YtghfhomfppbooaaGreatT06
set_option linter.unusedSimpArgs false
set_option linter.unusedVariables false
namespace Go.Proofs.YtghfhomfppbooaaGreat
open Go.Vi
theorem last_at {gs:List Seg} (h:1<=gs.length):(gs.map Seg.enc)[gs.length-1]?=some (gs.getLastD ⟨0,0,0⟩).enc:=by
 have hl:gs.length-1<gs.length:=by omega
 rw[List.getElem?_map,List.getElem?_eq_getElem hl,List.getLastD_eq_getLast?,List.getLast?_eq_getElem?,List.getElem?_eq_getElem hl];rfl
set_option maxRecDepth 8000 in
set_option maxHeartbeats 4000000 in
theorem mend_spec {k u:Nat} (d:Dsk) (hd:okN k u d) (hk:k<=700000) (hu:u<=1000000) (m:Man) (rows:Rows) (gs:List Seg) (hg:1<=gs.length∧gs.length<=64) (hb:0<=(gs.getLastD ⟨0,0,0⟩).base∧(gs.getLastD ⟨0,0,0⟩).base<=1099511627776) :
  call 26 [.one (.p 0 0)] [.cells (opL d m (.sl 1 3 0 gs.length) (.m 2)),.arr 3 (gs.map Seg.enc) 0,.mp rows]=some (vi (mendT d (gs.getLastD ⟨0,0,0⟩)).2,[.cells (opL (mendT d (gs.getLastD ⟨0,0,0⟩)).1 m (.sl 1 3 0 gs.length) (.m 2)),.arr 3 (gs.map Seg.enc) 0,.mp rows]):=by
 have g1:=last_at hg.1;have hgm:(gs.map Seg.enc).length=gs.length:=by simp
 have hn1:(gs.length:Int)-1=((gs.length-1:Nat):Int):=by omega
 have hn2:((gs.length:Int)-1).toNat=gs.length-1:=by omega
 generalize gs.getLastD ⟨0,0,0⟩=g at *;generalize gs.map Seg.enc=G at *;obtain⟨gn,hgn⟩:∃ gn,gn=gs.length:=⟨_,rfl⟩;rw[<- hgn] at hg hgm hn1 hn2 g1 ⊢;have q1:=seg_int hb;have q2:=read_disk d (Nat.le_trans hd.len (by omega)) hd.srt (fileN g.base)
 have q3:=cut_disk d (hd.ok (by omega) (by omega)) (fileN g.base) g.size
 have k3:=cut_okN hd g;have q4:=sync_disk d (hd.ok (by omega) (by omega)) (fileN g.base)
 have q5:=sync_disk _ (k3.ok (by omega) (by omega)) (fileN g.base)
 unfold mendT;have e0:∀ d:Dsk,synS (fileN g.base) (d,0)=chgF d (synR d.files (fileN g.base)):=fun d=>stp_ye _ _
 have e1:∀ (d:Dsk) (e:Int),e≠0->synS (fileN g.base) (d,e)=(d,e):=fun d e h=>by unfold synS stp;rw[if_neg h]
 obtain⟨gb,gnn,gz⟩:=g;simp only[Seg.enc] at g1 hb q1 q2 q3 q4 q5 e0 e1 ⊢;generalize fileN gb=N at *;have hrl:=readF_len d.files N;have hdu:=hd.used;generalize readF d.files N=rf at *;obtain⟨x,e⟩:=rf;simp only at q2 hrl ⊢;by_cases c:gz<((x.length:Nat):Int)
 ·rw[if_pos c];generalize chgF d (cutR d.files N gz)=w at *;obtain⟨w1,we⟩:=w;by_cases c1:we=0
  ·subst c1;rw[e0];simp only at q5 ⊢;generalize chgF w1 (synR w1.files N)=y at *;obtain⟨⟨yfl,ycp,yar,ylf,ydn⟩,ye⟩:=y;obtain⟨wfl,wcp,war,wlf,wdn⟩:=w1;obtain⟨fl,cp,ar,lf,dn⟩:=d;simp only[dskV,Dsk.l,opL] at q2 q3 q5 ⊢;clear e0 e1 q4 k3;apply enterS s26 rfl;(simp(disch:=first|decide|omega|(intros;exact Eq.trans rfl rfl)|simp only[puri]) only[wkf,a26,hgm,hn1,hn2,g1,q1,q2,decide_eq_true c,q3,q5,go_sem,seval,dis,vdr,A.kind,A.xs,optX,A.isN])
   try simp[trim,V.refs,L.refs,Box.refs]
  ·rw[e1 _ _ c1];obtain⟨wfl,wcp,war,wlf,wdn⟩:=w1;obtain⟨fl,cp,ar,lf,dn⟩:=d;simp only[dskV,Dsk.l,opL] at q2 q3 ⊢;clear e0 e1 q4 q5 k3;apply enterS s26 rfl;(simp(disch:=first|decide|omega|(intros;exact Eq.trans rfl rfl)|simp only[puri]) only[wkf,a26,hgm,hn1,hn2,g1,q1,q2,decide_eq_true c,q3,eq_false c1,go_sem,seval,dis,vdr,A.kind,A.xs,optX,A.isN])
   try simp[trim,V.refs,L.refs,Box.refs]
 ·rw[if_neg c,e0];generalize chgF d (synR d.files N)=y at *;obtain⟨⟨yfl,ycp,yar,ylf,ydn⟩,ye⟩:=y;obtain⟨fl,cp,ar,lf,dn⟩:=d;simp only[dskV,Dsk.l,opL] at q2 q4 ⊢;clear e0 e1 q3 q5 k3;apply enterS s26 rfl;(simp(disch:=first|decide|omega|(intros;exact Eq.trans rfl rfl)|simp only[puri]) only[wkf,a26,hgm,hn1,hn2,g1,q1,q2,decide_eq_false c,q4,go_sem,seval,dis,vdr,A.kind,A.xs,optX,A.isN])
  try simp[trim,V.refs,L.refs,Box.refs]
set_option maxRecDepth 20000 in
set_option maxHeartbeats 8000000 in
theorem popen_spec {k u:Nat} (d:Dsk) (hd:okN k u d) (hk:k<=700000) (hu:u<=1000000):call 10 [.agg d.l] []=some (stoV (openT d),[]):=by
 have hrd:=fun n=>read_disk d (Nat.le_trans hd.len (by omega)) hd.srt n
 have hcell:∀ s:Sto,s.l=[.d (.l (s.disk.files.map Fil.enc)),.d (.i .i64 s.disk.cap),.d (.b s.disk.armed),.d (.i .i64 s.disk.left),.d (.b s.disk.down),.d (.i .i64 s.ver),.d (.l (s.segs.map Seg.enc)),.d (.i .i64 s.next),.d (.i .i64 s.sure),.d (.i .i64 s.size),.d (.i .u32 s.sum)]:=fun _=>rfl
 have hdl:∀ d:Dsk,d.l=([.d (.l (d.files.map Fil.enc)),.d (.i .i64 d.cap),.d (.b d.armed),.d (.i .i64 d.left),.d (.b d.down)]:List L):=fun _=>rfl
 have hds:∀ d:Dsk,[.d (.l ((deadS d).disk.files.map Fil.enc)),.d (.i .i64 (deadS d).disk.cap),.d (.b (deadS d).disk.armed),.d (.i .i64 (deadS d).disk.left),.d (.b (deadS d).disk.down),.d (.i .i64 (deadS d).ver),.d (.l ((deadS d).segs.map Seg.enc)),.d (.i .i64 (deadS d).next),.d (.i .i64 (deadS d).sure),.d (.i .i64 (deadS d).size),.d (.i .u32 (deadS d).sum)]=([.d (.l (d.files.map Fil.enc)),.d (.i .i64 d.cap),.d (.b d.armed),.d (.i .i64 d.left),.d (.b d.down),.d (.i .i64 0),.d (.l []),.d (.i .i64 0),.d (.i .i64 0),.d (.i .i64 0),.d (.i .u32 0)]:List L):=fun _=>rfl
 unfold openT;apply enterS s10 rfl;by_cases c0:d.down=true
 ·rw[if_pos c0];simp only[stoV,hcell,hds,hdl] at hrd ⊢;rw[c0];(simp(disch:=first|decide|omega|(intros;exact Eq.trans rfl rfl)|simp only[puri]) only[wkf,a10,go_sem,seval,dis])
  try simp[trim]
 ·rw[if_neg c0];have c0':d.down=false:=by simpa using c0
  have q1:=hrd [109];have hrl:=readF_len d.files [109];have hdu:=hd.used;by_cases c1:(readF d.files [109]).2=0
  ·rw[if_neg (by simp[c1])]
   obtain⟨z,q2,hq⟩:=oread_spec d hd hk hu (readF d.files [109]).1 (by omega)
   unfold readQ at hq;have hbad:(∃ (b:Box) (T:Hp),z=(vb false,b::T))->∃ (b:Box) (T:Hp),∀ B0 B1:Box,callIso call 25 [.one (.p 2 0),vs (readF d.files [109]).1] [B0,B1,.cells (opL0 d)]=some (vb false,B0::B1::b::T):=by
    rintro⟨b,T,rfl⟩;exact⟨Box.ren (fun j=>if j<1 then[2][j]? else some (3+(j-1))) b,T.map (Box.ren (fun j=>if j<1 then[2][j]? else some (3+(j-1)))),fun B0 B1=>iso_at (ids:=[2]) rfl rfl rfl q2 rfl⟩
   have hbd:(∃ (b:Box) (T:Hp),∀ B0 B1:Box,callIso call 25 [.one (.p 2 0),vs (readF d.files [109]).1] [B0,B1,.cells (opL0 d)]=some (vb false,B0::B1::b::T))->goU call ([]:Hp).length (finK a10.res a10.keep ([]:Hp).length) a10.body (frameOf a10.ntmps (argF [.agg d.l])) [] []=some (stoV (deadS d,3),[]):=by
    rintro⟨b,T,f2⟩;generalize readF d.files [109]=rf at *;simp only[stoV,hcell,hds,hdl,opL0] at q1 f2 ⊢;rw[c0'] at q1 f2 ⊢;clear q2 hq hbad;(simp(disch:=first|decide|omega|(intros;exact Eq.trans rfl rfl)|simp only[puri]) only[wkf,a10,q1,c1,f2,go_sem,seval,dis])
    try simp[trim]
   cases hdm:decM (readF d.files [109]).1 with
   | none =>
    rw[hdm] at hq;exact hbd (hbad hq)
   | some m =>
    rw[hdm] at hq;simp only at hq ⊢;unfold openR;cases hso:snapOk d m with
    | false =>
     rw[hso] at hq;simp only[Bool.false_eq_true,if_false] at hq ⊢;exact hbd (hbad hq)
    | true =>
     rw[hso] at hq;simp only[if_true] at hq ⊢;unfold segsQ at hq;cases hsg:segsT d m.segs with
     | none =>
      rw[hsg] at hq;exact hbd (hbad hq)
     | some gs =>
      rw[hsg] at hq;simp only at hq ⊢;obtain⟨rows,hr,rfl⟩:=hq;clear hbad hbd;have hm:=(dec_some hdm).1;have hmb:=manB_t hm;have hmi:=incB_mem _ _ hmb.2.2.1;have hgl:=segsT_len d _ _ hsg;have hgb:=segsT_bd hd _ _ hsg;have hlast:gs.getLastD ⟨0,0,0⟩∈gs:=by
       have hne:gs≠[]:=fun h=>by rw[h] at hgl;simp at hgl;omega
       rw[List.getLastD_eq_getLast?,List.getLast?_eq_some_getLast hne];exact List.getLast_mem hne
      have hg1:=hgb _ hlast;have hg2:=hmi _ hg1.1;have g1:=last_at (gs:=gs) (by omega)
      have hgm:(gs.map Seg.enc).length=gs.length:=by simp
      have hn1:(gs.length:Int)-1=((gs.length-1:Nat):Int):=by omega
      have hn2:((gs.length:Int)-1).toNat=gs.length-1:=by omega
      have htk:List.take gs.length (gs.map Seg.enc)=gs.map Seg.enc:=List.take_of_length_le (by omega)
      have q3:=sweep1_spec d hd hk (by omega) m gs.length (gs.map Seg.enc) rows (useN m) hr
      have ks:=sweep_ok hd (useN m);have q4:=mend_spec _ ks hk hu m rows gs (by omega) (by omega)
      have km:=mend_ok ks (gs.getLastD ⟨0,0,0⟩);unfold openM;have f2:∀ B0 B1:Box,callIso call 25 [.one (.p 2 0),vs (readF d.files [109]).1] [B0,B1,.cells (opL0 d)]=some (vb true,[B0,B1,.cells (opL d m (.sl 3 3 0 gs.length) (.m 4)),.arr 3 (gs.map Seg.enc) 0,.mp rows]):=fun B0 B1=>iso_at (ids:=[2]) rfl rfl rfl q2 rfl
      have f3:∀ B0 B1:Box,callIso call 23 [.one (.p 2 0)] [B0,B1,.cells (opL d m (.sl 3 3 0 gs.length) (.m 4)),.arr 3 (gs.map Seg.enc) 0,.mp rows]=some (vi (sweepT (useN m) d).2,[B0,B1,.cells (opL (sweepT (useN m) d).1 m (.sl 3 3 0 gs.length) (.m 4)),.arr 3 (gs.map Seg.enc) 0,.mp rows]):=fun B0 B1=>iso_at (ids:=[2,3,4]) rfl rfl rfl q3 rfl
      have f4:∀ B0 B1:Box,callIso call 26 [.one (.p 2 0)] [B0,B1,.cells (opL (sweepT (useN m) d).1 m (.sl 3 3 0 gs.length) (.m 4)),.arr 3 (gs.map Seg.enc) 0,.mp rows]=some (vi (mendT (sweepT (useN m) d).1 (gs.getLastD ⟨0,0,0⟩)).2,[B0,B1,.cells (opL (mendT (sweepT (useN m) d).1 (gs.getLastD ⟨0,0,0⟩)).1 m (.sl 3 3 0 gs.length) (.m 4)),.arr 3 (gs.map Seg.enc) 0,.mp rows]):=fun B0 B1=>iso_at (ids:=[2,3,4]) rfl rfl rfl q4 rfl
      clear q2 q3 q4 hr hgb hlast hsg hmi;generalize readF d.files [109]=rf at *;generalize sweepT (useN m) d=w at *;obtain⟨w1,we⟩:=w;generalize mendT w1 (gs.getLastD ⟨0,0,0⟩)=y at *;obtain⟨y1,ye⟩:=y;simp only at f2 f3 f4 hg1 hg2 km ⊢;generalize gs.getLastD ⟨0,0,0⟩=g at *;generalize hG:gs.map Seg.enc=G at *;obtain⟨gb,gn,gz⟩:=g;simp only[Seg.enc] at g1 hg1 hg2;obtain⟨gl,hgl2⟩:∃ gl,gl=gs.length:=⟨_,rfl⟩;rw[<- hgl2] at f2 f3 f4 hgm hn1 hn2 g1 htk hgl;by_cases c2:we=0
      ·subst c2;rw[if_neg (by simp)]
       by_cases c3:ye=0
       ·subst c3;rw[if_neg (by simp)]
        simp only[stoV,hcell,hdl,opL,opL0,hG] at q1 f2 f3 f4 ⊢;rw[c0'] at q1 f2 f3 ⊢;(simp(disch:=first|decide|omega|(intros;exact Eq.trans rfl rfl)|simp only[puri]) only[wkf,a10,q1,c1,f2,f3,f4,hgm,hn1,hn2,g1,htk,go_sem,seval,dis,vdr,A.kind,A.xs,optX,A.isN])
        try simp[trim]
       ·rw[if_pos c3];simp only[stoV,hcell,hds,hdl,opL,opL0] at q1 f2 f3 f4 ⊢;rw[c0'] at q1 f2 f3 ⊢;(simp(disch:=first|decide|omega|(intros;exact Eq.trans rfl rfl)|simp only[puri]) only[wkf,a10,q1,c1,f2,f3,f4,eq_false c3,go_sem,seval,dis,vdr,A.kind,A.xs,optX,A.isN])
        try simp[trim]
      ·rw[if_pos c2];simp only[stoV,hcell,hds,hdl,opL,opL0] at q1 f2 f3 f4 ⊢;rw[c0'] at q1 f2 f3 ⊢;(simp(disch:=first|decide|omega|(intros;exact Eq.trans rfl rfl)|simp only[puri]) only[wkf,a10,q1,c1,f2,f3,eq_false c2,go_sem,seval,dis,vdr,A.kind,A.xs,optX,A.isN])
       try simp[trim]
  ·rw[if_pos c1];have q3:=sweep0_spec d hd hk (by omega)
   have ks:=sweep_ok hd [];unfold freshT;generalize readF d.files [109]=rf at *;generalize sweepT [] d=w at *;have q4:=new_spec w.1 ks (by omega) (by omega)
   have f3:∀ B0 B1:Box,callIso call 23 [.one (.p 2 0)] [B0,B1,.cells (opL0 d)]=some (vi w.2,[B0,B1,.cells (opL0 w.1)]):=fun B0 B1=>iso_at (ids:=[2]) rfl rfl rfl q3 rfl
   clear q3;obtain⟨w1,we⟩:=w;by_cases c2:we=0
   ·subst c2;rw[if_neg (by simp)]
    simp only at q4 ⊢;generalize createT w1=y at *;obtain⟨y1,ye⟩:=y;simp only[stoV,hcell,hdl,opL0] at q1 q4 f3 ⊢;rw[c0'] at q1 f3 ⊢;(simp(disch:=first|decide|omega|(intros;exact Eq.trans rfl rfl)|simp only[puri]) only[wkf,a10,q1,c1,f3,q4,go_sem,seval,dis])
    try simp[trim]
   ·rw[if_pos c2];simp only[stoV,hcell,hds,hdl,opL0] at q1 f3 ⊢;rw[c0'] at q1 f3 ⊢;(simp(disch:=first|decide|omega|(intros;exact Eq.trans rfl rfl)|simp only[puri]) only[wkf,a10,q1,c1,f3,eq_false c2,go_sem,seval,dis])
    try simp[trim]
def inB (l:List Fil):Prop:=∀ x∈l,0<=x.sure∧x.sure<=((x.data.length:Nat):Int)
theorem chg_in {d:Dsk} (h:inB d.files) {r:List Fil × Int} (hr:r.2=0->inB r.1):inB (chgF d r).1.files:=by
 unfold chgF;split
 ·exact h
 ·split
  ·exact h
  ·rename_i h0;have h0:r.2=0:=by simpa using h0
   split
   ·split
    ·exact h
    ·exact hr h0
   ·exact hr h0
theorem ins_in {l:List Fil} (h:inB l) (k:Nat) {f:Fil} (hf:0<=f.sure∧f.sure<=((f.data.length:Nat):Int)):inB (insF l k f):=by
 intro x hx;unfold insF at hx;rcases List.mem_append.1 hx with hx|hx
 ·exact h x (List.mem_of_mem_take hx)
 ·rcases List.mem_cons.1 hx with rfl|hx
  ·exact hf
  ·exact h x (List.mem_of_mem_drop hx)
theorem set_in {l:List Fil} (h:inB l) (k:Nat) {f:Fil} (hf:0<=f.sure∧f.sure<=((f.data.length:Nat):Int)):inB (l.set k f):=by
 intro x hx;rcases List.mem_or_eq_of_mem_set hx with hx|rfl
 ·exact h x hx
 ·exact hf
theorem upd_in {l:List Fil} (h:inB l) (k:Nat) {g:Fil->Fil} (hg:∀ f:Fil,(0<=f.sure∧f.sure<=((f.data.length:Nat):Int))->(0<=(g f).sure∧(g f).sure<=(((g f).data.length:Nat):Int))):inB (updF l k g):=by
 unfold updF;split
 ·rename_i f hf;exact set_in h k (hg f (h f (List.mem_of_getElem? hf)))
 ·exact h
theorem dlt_in {l:List Fil} (h:inB l) (k:Nat):inB (delF l k):=by
 intro x hx;unfold delF at hx;rcases List.mem_append.1 hx with hx|hx
 ·exact h x (List.mem_of_mem_take hx)
 ·exact h x (List.mem_of_mem_drop hx)
theorem crt_in {d:Dsk} (h:inB d.files) (n:Txt):inB (chgF d (crtR d.files n)).1.files:=chg_in h fun h0=>by
 unfold crtR at h0 ⊢;split at h0
 ·split at h0
  ·cases h0
  ·rename_i h1 h2;rw[if_pos h1,if_neg h2];exact ins_in h _ (by simp)
 ·cases h0
theorem app_in {d:Dsk} (h:inB d.files) (n x:Txt):inB (chgF d (appR d.files d.cap n x)).1.files:=chg_in h fun h0=>by
 unfold appR at h0 ⊢;split at h0
 ·split at h0
  ·cases h0
  ·rename_i h1 h2;rw[if_pos h1,if_neg h2];exact upd_in h _ fun f hf=>⟨hf.1,by show f.sure<=(((f.data++x).length:Nat):Int);rw[List.length_append];omega⟩
 ·cases h0
theorem syn_in {d:Dsk} (h:inB d.files) (n:Txt):inB (chgF d (synR d.files n)).1.files:=chg_in h fun h0=>by
 unfold synR at h0 ⊢;split at h0
 ·rename_i h1;rw[if_pos h1];exact upd_in h _ fun f hf=>⟨by show(0:Int)<=((f.data.length:Nat):Int);omega,Int.le_refl _⟩
 ·cases h0
theorem del_in {d:Dsk} (h:inB d.files) (n:Txt):inB (chgF d (delR d.files n)).1.files:=chg_in h fun h0=>by
 unfold delR at h0 ⊢;split at h0
 ·rename_i h1;rw[if_pos h1];exact dlt_in h _
 ·cases h0
theorem ren_in {d:Dsk} (h:inB d.files) (n t:Txt):inB (chgF d (renR d.files n t)).1.files:=chg_in h fun h0=>by
 unfold renR at h0 ⊢;split at h0
 ·split at h0
  ·rename_i h1 h2;rw[if_pos h1,if_pos h2];have hf:0<=(nameAt d.files (posF d.files n) t).sure∧(nameAt d.files (posF d.files n) t).sure<=(((nameAt d.files (posF d.files n) t).data.length:Nat):Int):=by
    unfold nameAt;split
    ·rename_i f hf;exact h f (List.mem_of_getElem? hf)
    ·simp
   simp only[putAt];split
   ·exact set_in (dlt_in h _) _ hf
   ·exact ins_in (dlt_in h _) _ hf
  ·cases h0
 ·cases h0
theorem stp_in {s:Dsk × Int} {f:Dsk->Dsk × Int} (h:inB s.1.files) (hf:inB (f s.1).1.files):inB (stp s f).1.files:=by
 unfold stp;split
 ·exact hf
 ·exact h
theorem crtS_in {s:Dsk × Int} (h:inB s.1.files) (n:Txt):inB (crtS n s).1.files:=stp_in h (crt_in h n)
theorem delS_in {s:Dsk × Int} (h:inB s.1.files) (n:Txt):inB (delS n s).1.files:=stp_in h (del_in h n)
theorem synS_in {s:Dsk × Int} (h:inB s.1.files) (n:Txt):inB (synS n s).1.files:=stp_in h (syn_in h n)
theorem appS_in {s:Dsk × Int} (h:inB s.1.files) (n x:Txt):inB (appS n x s).1.files:=stp_in h (app_in h n x)
theorem renS_in {s:Dsk × Int} (h:inB s.1.files) (n t:Txt):inB (renS n t s).1.files:=stp_in h (ren_in h n t)
theorem unlS_in {s:Dsk × Int} (h:inB s.1.files) (n:Txt):inB (unlS n s).1.files:=by
 unfold unlS;split
 ·exact h
 ·split
  ·exact delS_in (s:=(s.1,0)) h n
  ·exact delS_in (s:=(s.1,0)) h n
theorem swap_in {s:Dsk × Int} (h:inB s.1.files) (m:Man):inB (swapS m s).1.files:=by
 unfold swapS;simp only[];have h1:inB (if s.2=0 then(s.1,(manPut m).2) else s).1.files:=by split <;> exact h
 generalize (if s.2=0 then(s.1,(manPut m).2) else s)=s1 at *
 have h2:inB (if(readF s1.1.files [110]).2=0 then delS [110] s1 else s1).1.files:=by
  split
  ·exact delS_in h1 _
  ·exact h1
 generalize (if(readF s1.1.files [110]).2=0 then delS [110] s1 else s1)=s2 at *
 have h3:=crtS_in h2 [110];split
 ·exact h3
 ·exact renS_in (synS_in (unlS_in (appS_in h3 _ _) _) _) _ _
theorem sync_in {s:Sto} (h:inB s.disk.files):inB (syncT s).1.disk.files:=syn_in h _
theorem roll_in {s:Sto} (h:inB s.disk.files):inB (rollT s).1.disk.files:=by
 unfold rollT;split
 ·exact h
 ·have h2:=sync_in h;split
  ·exact h2
  ·generalize (syncT s).1=t at *;have h3:inB (rollD t).1.files:=by
    unfold rollD;have h4:=crtS_in (s:=(t.disk,0)) h2 (fileN t.next);simp only[];split
    ·exact unlS_in (swap_in h4 _) _
    ·exact h4
   split
   ·exact h3
   ·exact h3
theorem put_in {s:Sto} (h:inB s.disk.files) (x:Txt):inB (putT s x).1.disk.files:=by
 have h2:=app_in h (fileN s.last.base) x;unfold putT;simp only[];split
 ·exact h2
 ·exact h2
theorem appT_in {s:Sto} (h:inB s.disk.files) (seg:Int) (r:Rec):inB (appT s seg r).1.disk.files:=by
 unfold appT;split
 ·exact h
 ·split
  ·exact h
  ·split
   ·split
    ·exact roll_in h
    ·exact put_in (roll_in h) _
   ·exact put_in h _
theorem create_in {d:Dsk} (h:inB d.files):inB (createT d).1.disk.files:=by
 unfold createT;simp only[];have h1:=crtS_in (s:=(d,0)) h (fileN 0);generalize crtS (fileN 0) (d,0)=q at *;have h2:inB (if q.2=0 then swapS ⟨1,[0],0,0⟩ q else q).1.files:=by
  split
  ·exact swap_in h1 _
  ·exact h1
 generalize (if q.2=0 then swapS ⟨1,[0],0,0⟩ q else q)=q2 at *
 split
 ·exact h2
 ·exact h2
def crN (f:Fil) (k:Option Int):Int:=match k with|some a=>max 0 (min a ((f.data.length:Nat)-f.sure))|none=>0
def crF (f:Fil) (k:Option Int):Fil:=⟨f.name,f.data.take (f.sure+crN f k).toNat,f.sure+crN f k⟩
def crL (l:List Fil) (keep:List Int):List Fil:=l.mapIdx fun i f=>crF f keep[i]?
def crashT (d:Dsk) (keep:List Int):Dsk:=⟨crL d.files keep,d.cap,false,0,false⟩
theorem crN_in {f:Fil} (h:0<=f.sure∧f.sure<=((f.data.length:Nat):Int)) (k:Option Int):0<=crN f k∧f.sure+crN f k<=((f.data.length:Nat):Int):=by
 unfold crN;cases k with
 | none=>simp only[];omega
 | some a=>simp only[];omega
theorem crL_len (l:List Fil) (keep:List Int):(crL l keep).length=l.length:=by simp[crL]
theorem crL_at (l:List Fil) (keep:List Int) (i:Nat) (h:i<l.length):(crL l keep).take (i+1)=(crL l keep).take i++[crF l[i] keep[i]?]:=by
 rw[List.take_succ_eq_append_getElem (by rw[crL_len];exact h)]
 simp[crL]
set_option maxRecDepth 8000 in
set_option maxHeartbeats 4000000 in
theorem rcrash_spec (d:Dsk) (hl:d.files.length<=1000000) (hu:usedF d.files<=1000000000000) (hin:inB d.files) (keep:List Int) (hk:keep.length<=1000000) (hki:∀ a∈keep,-9223372036854775808<=a∧a<9223372036854775808):call 19 [.agg d.l,vl (keep.map eI)] []=some (.agg (crashT d keep).l,[]):=by
 obtain⟨Z,hZ⟩:∃ Z,Z=(crashT d keep).l:=⟨_,rfl⟩;rw[<- hZ];unfold crashT at hZ;obtain⟨fl,cp,ar,lf,dn⟩:=d;simp only[Dsk.l] at hl hu hin hZ ⊢;apply enterS s19 rfl;(simp(disch:=first|decide|omega|(intros;exact Eq.trans rfl rfl)|simp only[puri]) only[wkf,a19,go_sem,seval,dis])
 refine loop_boxM (m:=0) (σ:=Nat) (fun i=>fl.length-i) (fun i=>i<=fl.length) (fun i=>[vl (keep.map eI),V.one (.p 0 0),V.one (.p 1 0),V.one (.sl 2 3 0 ((crL fl keep).take i).length),vi i])
  (fun i=>[.cells [.d (.l (fl.map Fil.enc)),.d (.i .i64 cp),.d (.b ar),.d (.i .i64 lf),.d (.b dn)],.cells [.ns,.d (.i .i64 0),.d (.b false),.d (.i .i64 0),.d (.b false)],.arr 3 (((crL fl keep).take i).map Fil.enc) 0]) (fun _=>(V.agg Z,[])) ?_ 0 (Nat.zero_le _) _ _ hdM
 intro i h1 R hR;have hcl:=crL_len fl keep;by_cases hi:i<fl.length
 ·have hc:(i:Int)<(fl.length:Int):=by omega
  have g1:(fl.map Fil.enc)[i]?=some fl[i].enc:=by rw[List.getElem?_map,List.getElem?_eq_getElem hi];rfl
  have hR':=hR (i+1) (by omega) (by omega)
  rw[crL_at fl keep i hi] at hR';have hlen:(((crL fl keep).take i).map Fil.enc).length=((crL fl keep).take i).length:=by simp
  have hl2:((crL fl keep).take i).length<=1000000:=by simp;omega
  have hx:=hin _ (List.getElem_mem hi);have hd:=Nat.le_trans (data_le fl i hi) hu;have hcn:=crN_in hx keep[i]?;have e2:((crL fl keep).take i++[crF fl[i] keep[i]?]).map Fil.enc=((crL fl keep).take i).map Fil.enc++[[.s fl[i].name,.s (fl[i].data.take (fl[i].sure+crN fl[i] keep[i]?).toNat),.i .i64 (fl[i].sure+crN fl[i] keep[i]?)]]:=by rw[List.map_append];rfl
  have e3:((crL fl keep).take i++[crF fl[i] keep[i]?]).length=((crL fl keep).take i).length+1:=by rw[List.length_append];rfl
  rw[e2,e3] at hR';have hkl:(keep.map eI).length=keep.length:=by simp
  generalize ((crL fl keep).take i).length=n at *;generalize ((crL fl keep).take i).map Fil.enc=Q at *;clear e2 e3;generalize fl[i]=w at *;obtain⟨a,b,c⟩:=w;simp only[Fil.enc] at g1 hx hd hcn hR';by_cases ck:i<keep.length
  ·have hck:(i:Int)<(keep.length:Int):=by omega
   have g2:(keep.map eI)[i]?=some [.i .i64 keep[i]]:=by rw[List.getElem?_map,List.getElem?_eq_getElem ck];rfl
   rw[List.getElem?_eq_getElem ck] at hR' hcn;have hkk:=hki _ (List.getElem_mem ck);obtain⟨z,hz⟩:∃ z,z=crN ⟨a,b,c⟩ (some keep[i]):=⟨_,rfl⟩;rw[<- hz] at hR' hcn;have hz2:z=max 0 (min keep[i] ((b.length:Nat)-c)):=hz;clear hz;generalize keep[i]=y at *;have ht:(b.take (c+z).toNat).length=(c+z).toNat:=by simp;omega
   have hcz:(((c+z).toNat:Nat):Int)=c+z:=by omega
   by_cases m1:((b.length:Nat):Int)-c<y
   ·by_cases m2:(0:Int)<((b.length:Nat):Int)-c
    ·have m3:z=((b.length:Nat):Int)-c:=by omega
     rw[m3] at hR' ht hcz;(simp(disch:=first|decide|omega|(intros;exact Eq.trans rfl rfl)|simp only[puri]) only[wkf,a19_0,decide_eq_true hc,List.length_map,g1,hkl,decide_eq_true hck,g2,hlen,if_pos m1,if_pos m2,ht,hcz,go_sem,seval,dis])
     exact hR' _ _ hdM
    ·have m3:z=0:=by omega
     rw[m3] at hR' ht hcz;(simp(disch:=first|decide|omega|(intros;exact Eq.trans rfl rfl)|simp only[puri]) only[wkf,a19_0,decide_eq_true hc,List.length_map,g1,hkl,decide_eq_true hck,g2,hlen,if_pos m1,if_neg m2,ht,hcz,go_sem,seval,dis])
     exact hR' _ _ hdM
   ·by_cases m2:(0:Int)<y
    ·have m3:z=y:=by omega
     rw[m3] at hR' ht hcz;(simp(disch:=first|decide|omega|(intros;exact Eq.trans rfl rfl)|simp only[puri]) only[wkf,a19_0,decide_eq_true hc,List.length_map,g1,hkl,decide_eq_true hck,g2,hlen,if_neg m1,if_pos m2,ht,hcz,go_sem,seval,dis])
     exact hR' _ _ hdM
    ·have m3:z=0:=by omega
     rw[m3] at hR' ht hcz;(simp(disch:=first|decide|omega|(intros;exact Eq.trans rfl rfl)|simp only[puri]) only[wkf,a19_0,decide_eq_true hc,List.length_map,g1,hkl,decide_eq_true hck,g2,hlen,if_neg m1,if_neg m2,ht,hcz,go_sem,seval,dis])
     exact hR' _ _ hdM
  ·have hck:¬ (i:Int)<(keep.length:Int):=by omega
   rw[List.getElem?_eq_none (by omega)] at hR' hcn
   simp only[crN,Int.add_zero] at hR' hcn;have ht:(b.take c.toNat).length=c.toNat:=by simp;omega
   have hcz:((c.toNat:Nat):Int)=c:=by omega
   (simp(disch:=first|decide|omega|(intros;exact Eq.trans rfl rfl)|simp only[puri]) only[wkf,a19_0,decide_eq_true hc,List.length_map,g1,hkl,decide_eq_false hck,hlen,ht,hcz,Int.add_zero,go_sem,seval,dis])
   exact hR' _ _ hdM
 ·have hc:¬ (i:Int)<(fl.length:Int):=by omega
  have ht:(crL fl keep).take i=crL fl keep:=List.take_of_length_le (by omega)
  rw[ht];have htk:List.take (crL fl keep).length ((crL fl keep).map Fil.enc)=(crL fl keep).map Fil.enc:=List.take_of_length_le (by simp)
  have hln:((crL fl keep).map Fil.enc).length=(crL fl keep).length:=by simp
  rw[hZ];(simp(disch:=first|decide|omega|(intros;exact Eq.trans rfl rfl)|simp only[puri]) only[wkf,a19_0,a19,decide_eq_false hc,List.length_map,htk,hln,go_sem,seval,dis])
  try simp[trim]
theorem crL_cons (a:Fil) (l:List Fil) (keep:List Int):crL (a::l) keep=crF a keep[0]?::crL l keep.tail:=by
 unfold crL;rw[List.mapIdx_cons];congr 1
 congr 1
 funext i f
 cases keep with
 | nil=>simp
 | cons b r=>simp
theorem crL_names (l:List Fil) (keep:List Int):(crL l keep).map Fil.name=l.map Fil.name:=by
 apply List.ext_getElem
 ·simp[crL]
 ·intro i h1 h2;simp[crL,crF]
theorem crL_used:∀ (l:List Fil) (keep:List Int),usedF (crL l keep)<=usedF l
 | [],keep=>Nat.le_refl _
 | a::l,keep=>by
  rw[crL_cons];have h1:=crL_used l keep.tail;have e1:∀ (b:Fil) (m:List Fil),usedF (b::m)=b.data.length+usedF m:=fun b m=>by rw[<- used_one,<- used_app];rfl
  rw[e1,e1];have:(crF a keep[0]?).data.length<=a.data.length:=by simp[crF];omega
  omega
theorem crash_okN {k u:Nat} {d:Dsk} (h:okN k u d) (keep:List Int):okN k u (crashT d keep) :=
 ⟨by show(crL d.files keep).length<=k;rw[crL_len];exact h.len,srt_names (crL_names _ _) h.srt,⟨Int.le_refl _,by show(0:Int)<_;decide⟩,h.cap,Nat.le_trans (crL_used _ _) h.used⟩
def exR:Rec:=⟨0,0,[97,98]⟩
def exO:Sto:=(appT (openT d0).1 100 exR).1
theorem ex14_0:openT d0=createT d0:=by
 have h1:sweepT [] d0=(d0,0):=rfl;unfold openT freshT;rw[if_neg (by decide),if_pos (by decide),h1,if_neg (by decide)]
theorem ex14_a:(openT d0).2=0∧(appT (openT d0).1 100 exR).2=0:=by decide +kernel
theorem ex14_s:(openT d0).1.segs.length=1:=by decide +kernel
theorem ex14_x:(openT (crashT exO.disk [9,5])).2=0∧(openT (crashT exO.disk [9,5])).1.next=0:=by decide +kernel
theorem ex14_y:(openT (crashT exO.disk [9,99])).2=0∧(openT (crashT exO.disk [9,99])).1.next=1:=by decide +kernel
set_option maxRecDepth 20000 in
set_option maxHeartbeats 4000000 in
theorem awake14_spec:call 9 [] []=some (vb true,[]):=by
 have q0:=popen_spec d0 d0_ok (by decide) (by decide)
 have hp:=new_PI;rw[<- ex14_0] at hp;have q1:=rappend_sto (openT d0).1 hp.ok (by decide) (by decide) 100 exR (by refine⟨⟨?_,?_⟩,⟨?_,?_⟩,?_⟩ <;> decide)
 have o1:=appT_ok hp.ok 100 exR;have hin:inB exO.disk.files:=appT_in (s:=(openT d0).1) (by rw[ex14_0];exact create_in (d:=d0) (fun x hx=>by cases hx)) 100 exR
 have q2:=rcrash_spec exO.disk (Nat.le_trans o1.dsk.len (by decide)) (Nat.le_trans o1.dsk.used (by decide)) hin [9,5] (by decide) (by decide)
 have q3:=rcrash_spec exO.disk (Nat.le_trans o1.dsk.len (by decide)) (Nat.le_trans o1.dsk.used (by decide)) hin [9,99] (by decide) (by decide)
 have q4:=popen_spec (crashT exO.disk [9,5]) (crash_okN o1.dsk [9,5]) (by decide) (by decide)
 have q5:=popen_spec (crashT exO.disk [9,99]) (crash_okN o1.dsk [9,99]) (by decide) (by decide)
 obtain⟨a1,a3⟩:=ex14_a;have a4:=ex14_s;obtain⟨x1,x2⟩:=ex14_x;obtain⟨y1,y2⟩:=ex14_y;have hcell:∀ s:Sto,s.l=[.d (.l (s.disk.files.map Fil.enc)),.d (.i .i64 s.disk.cap),.d (.b s.disk.armed),.d (.i .i64 s.disk.left),.d (.b s.disk.down),.d (.i .i64 s.ver),.d (.l (s.segs.map Seg.enc)),.d (.i .i64 s.next),.d (.i .i64 s.sure),.d (.i .i64 s.size),.d (.i .u32 s.sum)]:=fun _=>rfl
 have hd0:d0.l=[.d (.l []),.d (.i .i64 0),.d (.b false),.d (.i .i64 0),.d (.b false)]:=rfl;have hr:exR.enc.map L.d=[.d (.i .i64 0),.d (.i .i64 0),.d (.s [97,98])]:=rfl;rw[hr] at q1;have eO:exO=(appT (openT d0).1 100 exR).1:=rfl;rw[eO] at q2 q3 q4 q5 x1 x2 y1 y2;generalize openT d0=r0 at *;obtain⟨st0,e0⟩:=r0;simp only at a1 a3 a4 q1 q2 q3 q4 q5 x1 x2 y1 y2;subst a1;generalize appT st0 100 exR=r1 at *;obtain⟨st1,e1⟩:=r1;simp only at a3 q2 q3 q4 q5 x1 x2 y1 y2;subst a3;generalize crashT st1.disk [9,5]=c1 at *;generalize crashT st1.disk [9,99]=c2 at *;generalize openT c1=r2 at *;generalize openT c2=r3 at *;obtain⟨s2,e2⟩:=r2;obtain⟨s3,e3⟩:=r3;simp only at x1 x2 y1 y2;subst x1 y1;have hdl:∀ d:Dsk,d.l=([.d (.l (d.files.map Fil.enc)),.d (.i .i64 d.cap),.d (.b d.armed),.d (.i .i64 d.left),.d (.b d.down)]:List L):=fun _=>rfl
 simp only[stoV,hcell,hd0,hdl,x2,y2,List.map_cons,List.map_nil,eI] at q0 q1 q2 q3 q4 q5;clear hcell hdl hp o1 hin;apply enterS s9 rfl;(simp(disch:=first|decide|omega|(intros;exact Eq.trans rfl rfl)|simp only[puri]) only[wkf,a9,q0,q1,q2,q3,q4,q5,a4,List.length_map,go_sem,seval,dis])
 try simp[trim]
theorem create_okN {k u:Nat} {d:Dsk} (h:okN k u d):okN (k+2) (u+800) (createT d).1.disk∧(createT d).1.segs.length<=64:=by
 have h1:=crt_ok (s:=(d,0)) h (fileN 0);unfold createT;simp only[];have h2:okN (k+2) (u+800) (if(crtS (fileN 0) (d,0)).2=0 then swapS ⟨1,[0],0,0⟩ (crtS (fileN 0) (d,0)) else crtS (fileN 0) (d,0)).1:=by
  split
  ·exact swap_okN h1 _
  ·exact h1.up (by omega) (by omega)
 generalize (if(crtS (fileN 0) (d,0)).2=0 then swapS ⟨1,[0],0,0⟩ (crtS (fileN 0) (d,0)) else crtS (fileN 0) (d,0))=w2 at *
 split
 ·exact⟨h2,by simp⟩
 ·exact⟨h2,by simp⟩
theorem open_okN {k u:Nat} {d:Dsk} (h:okN k u d):okN (k+2) (u+800) (openT d).1.disk∧(openT d).1.segs.length<=64:=by
 have dead:okN (k+2) (u+800) (deadS d).disk∧(deadS d).segs.length<=64:=⟨h.up (by omega) (by omega),by simp[deadS]⟩
 unfold openT;split
 ·exact dead
 ·split
  ·unfold freshT;have ks:=sweep_ok h [];split
   ·exact⟨ks.up (by omega) (by omega),by simp[deadS]⟩
   ·exact create_okN ks
  ·split
   ·rename_i m hm;have hmb:=manB_t (dec_some hm).1;unfold openR;split
    ·split
     ·rename_i gs hg;have hl:=segsT_len d _ _ hg;have ks:=sweep_ok h (useN m);unfold openM;split
      ·exact⟨ks.up (by omega) (by omega),by simp[deadS]⟩
      ·have km:=mend_ok ks (gs.getLastD ⟨0,0,0⟩);split
       ·exact⟨km.up (by omega) (by omega),by simp[deadS]⟩
       ·exact⟨km.up (by omega) (by omega),by show gs.length<=64;omega⟩
     ·exact dead
    ·exact dead
   ·exact dead
set_option maxRecDepth 20000 in
theorem tells14 (d:Dsk) (hl:d.files.length<=9223372036854775807) (hz:∀ f∈d.files,f.data.length<=9223372036854775807) (hcl:d.cap<9223372036854775808∧d.left<9223372036854775808) :
  call 3 [.agg d.l] []=some (vb true,[]):=by
 have q1:=few_spec d hl;have q2:=right06_spec d hl hz;have q0:=awake14_spec;have hdl:∀ d:Dsk,d.l=([.d (.l (d.files.map Fil.enc)),.d (.i .i64 d.cap),.d (.b d.armed),.d (.i .i64 d.left),.d (.b d.down)]:List L):=fun _=>rfl
 have hcell:∀ s:Sto,s.l=[.d (.l (s.disk.files.map Fil.enc)),.d (.i .i64 s.disk.cap),.d (.b s.disk.armed),.d (.i .i64 s.disk.left),.d (.b s.disk.down),.d (.i .i64 s.ver),.d (.l (s.segs.map Seg.enc)),.d (.i .i64 s.next),.d (.i .i64 s.sure),.d (.i .i64 s.size),.d (.i .u32 s.sum)]:=fun _=>rfl
 apply enterS s3 rfl;cases c1:fewB d with
 | false =>
  rw[c1] at q1;simp only[hdl] at q1 ⊢;(simp(disch:=first|decide|omega|(intros;exact Eq.trans rfl rfl)|simp only[puri]) only[wkf,a3,q1,q0,go_sem,seval,dis])
  try simp[trim]
 | true =>
  rw[c1] at q1;cases c2:rightB d with
  | false =>
   rw[c2] at q2;simp only[hdl] at q1 q2 ⊢;(simp(disch:=first|decide|omega|(intros;exact Eq.trans rfl rfl)|simp only[puri]) only[wkf,a3,q1,q2,q0,go_sem,seval,dis])
   try simp[trim]
  | true =>
   rw[c2] at q2;obtain⟨s1,s2,s3⟩:=right_srt c2;unfold fewB at c1;simp only[Bool.and_eq_true,decide_eq_true_eq,List.all_eq_true] at c1;have hu:=used_le d.files 3000 fun f hf=>by have:=c1.2 f hf;simp only[fewAt,Bool.and_eq_true,decide_eq_true_eq] at this;exact this.1
   have hd:okN 40 120000 d:=⟨c1.1,s1,⟨s3,hcl.2⟩,⟨s2,hcl.1⟩,by omega⟩
   have p1:=popen_spec d hd (by decide) (by decide)
   have p2:=ropen_spec d hd (by decide) (by decide) (fun m hm=>dec_ok hm)
   have k1:=open_okN hd;generalize openT d=w at *;have p3:=same12_spec w.1 (Nat.le_trans k1.1.len (by decide)) (Nat.le_trans k1.2 (by decide))
   obtain⟨w1,we⟩:=w;simp only[stoV,hcell,hdl] at q1 q2 p1 p2 p3 ⊢;(simp(disch:=first|decide|omega|(intros;exact Eq.trans rfl rfl)|simp only[puri]) only[wkf,a3,q1,q2,q0,p1,p2,p3,go_sem,seval,dis])
   try simp[trim]
theorem reopenTells_pure (xs:List V) (h:wfAs [(true,[.l [.s,.s,.i .i64],.i .i64,.b,.i .i64,.b])] xs):call 3 xs []=some (vb true,[]):=by
 simp only[wfAs,wfA] at h;obtain⟨_,_,rfl,⟨d,rfl,hd⟩,rfl⟩:=h;simp only[wfRow,wfT] at hd;obtain⟨_,_,e1,⟨rows,rfl,hl,hr⟩,_,_,e2,⟨cp,rfl,a1,a2⟩,_,_,e3,⟨ar,rfl⟩,_,_,e4,⟨lf,rfl,b1,b2⟩,_,_,e5,⟨dn,rfl⟩,rfl⟩:=hd;subst e1 e2 e3 e4 e5;obtain⟨l,rfl,ha⟩:=rows_map Fil.of rows hr;have a2':cp<9223372036854775808:=Int.lt_of_le_of_lt a2 (by decide)
 have b2':lf<9223372036854775808:=Int.lt_of_le_of_lt b2 (by decide)
 exact tells14 ⟨l,cp,ar,lf,dn⟩ (by simpa using hl) (fun f hf=>(ha f hf).2.1) ⟨a2',b2'⟩
end Go.Proofs.YtghfhomfppbooaaGreat
