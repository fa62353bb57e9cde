import Derived.Test.YtghfhomfppbooaaGreatT07
import Derived.Test.YtghfhomfppbooaaGreatVid
set_option linter.unusedSimpArgs false
set_option linter.unusedVariables false
namespace Go.Proofs.YtghfhomfppbooaaGreat
open Go.Vi
def deadS (d:Dsk):Sto:=⟨d,0,[],0,0,0,0⟩
def freshT (d:Dsk):Sto × Int:=if(sweepT [] d).2≠0 then(deadS (sweepT [] d).1,(sweepT [] d).2) else createT (sweepT [] d).1
def useS (m:Man):List Txt:=[109]::(if 0<m.segs.headD 0 then[snapN (m.segs.headD 0)] else[])
def useN (m:Man):List Txt:=useS m++m.segs.map fileN
def snapOk (d:Dsk) (m:Man):Bool:=decide (¬ 0<m.segs.headD 0) || (decide ((readF d.files (snapN (m.segs.headD 0))).2=0) && (decide (((readF d.files (snapN (m.segs.headD 0))).1.length:Int)=m.size) && decide (sumT (readF d.files (snapN (m.segs.headD 0))).1=m.sum)))
theorem snapOk_iff {d:Dsk} {m:Man}:snapOk d m=true↔(0<m.segs.headD 0->(readF d.files (snapN (m.segs.headD 0))).2=0∧((readF d.files (snapN (m.segs.headD 0))).1.length:Int)=m.size∧sumT (readF d.files (snapN (m.segs.headD 0))).1=m.sum):=by
 unfold snapOk;generalize m.segs.headD 0=h;by_cases c:0<h
 ·simp only[c,not_true,decide_false,Bool.false_or,Bool.and_eq_true,decide_eq_true_eq,forall_const]
 ·simp[c]
def mendT (d:Dsk) (g:Seg):Dsk × Int :=
 synS (fileN g.base) (if g.size<((readF d.files (fileN g.base)).1.length:Nat) then chgF d (cutR d.files (fileN g.base) g.size) else(d,0))
def openM (d:Dsk) (m:Man) (gs:List Seg):Sto × Int :=
 if(sweepT (useN m) d).2≠0 then(deadS (sweepT (useN m) d).1,(sweepT (useN m) d).2) else
  if(mendT (sweepT (useN m) d).1 (gs.getLastD ⟨0,0,0⟩)).2≠0 then(deadS (mendT (sweepT (useN m) d).1 (gs.getLastD ⟨0,0,0⟩)).1,(mendT (sweepT (useN m) d).1 (gs.getLastD ⟨0,0,0⟩)).2) else
   (⟨(mendT (sweepT (useN m) d).1 (gs.getLastD ⟨0,0,0⟩)).1,m.ver,gs,(gs.getLastD ⟨0,0,0⟩).base+(gs.getLastD ⟨0,0,0⟩).n,(gs.getLastD ⟨0,0,0⟩).base+(gs.getLastD ⟨0,0,0⟩).n,m.size,m.sum⟩,0)
def openR (d:Dsk) (m:Man):Sto × Int:=if snapOk d m=true then(match segsT d m.segs with|some gs=>openM d m gs|none=>(deadS d,3)) else(deadS d,3)
def openT (d:Dsk):Sto × Int :=
 if d.down=true then(deadS d,10) else if(readF d.files [109]).2≠0 then freshT d else match decM (readF d.files [109]).1 with
  | some m=>openR d m
  | none=>(deadS d,3)
theorem goP_okN {k u:Nat}:∀ (l:List Txt) (s:Dsk × Int),okN k u s.1->okN k u (goP l s).1
 | [],s,h=>h
 | n::l,s,h=>goP_okN l _ (del_okN h n)
theorem sweep_ok {k u:Nat} {d:Dsk} (h:okN k u d) (use:List Txt):okN k u (sweepT use d).1:=goP_okN _ _ h
theorem cut_okN {k u:Nat} {d:Dsk} (h:okN k u d) (g:Seg):okN k u (chgF d (cutR d.files (fileN g.base) g.size)).1:=by
 refine chg_ok h fun h0=>?_
 unfold cutR at h0 ⊢;split at h0
 ·rename_i hh;rw[if_pos hh];split at h0
  ·cases h0
  ·rename_i hc;rw[if_neg hc];obtain⟨hp,he⟩:=has_at hh;refine⟨by rw[upd_len];exact h.len,srt_names (upd_names _ _ _ (fun _=>rfl)) h.srt,?_⟩
   simp only[upd_at hp];have hu:=used_set d.files _ hp { d.files[posF d.files (fileN g.base)] with data:=d.files[posF d.files (fileN g.base)].data.take g.size.toNat,sure:=if g.size<d.files[posF d.files (fileN g.base)].sure then g.size else d.files[posF d.files (fileN g.base)].sure }
   have:=h.used;simp only[List.length_take] at hu;omega
 ·cases h0
theorem mend_ok {k u:Nat} {d:Dsk} (h:okN k u d) (g:Seg):okN k u (mendT d g).1:=by
 unfold mendT;refine syn_ok ?_ _;split
 ·exact cut_okN h g
 ·exact h
theorem head_at {l:List Int} (h:1<=l.length):(l.map eI)[0]?=some [.i .i64 (l.headD 0)]:=by
 cases l with
 | nil=>simp at h
 | cons a r=>rfl
theorem segsT_len:∀ (d:Dsk) (l:List Int) (gs:List Seg),segsT d l=some gs->gs.length=l.length
 | d,[],gs,h=>by simp only[segsT] at h;cases h;rfl
 | d,b::r,gs,h=>by
  rw[segsT_cons] at h;split at h
  ·cases h
  ·cases r with
   | nil=>simp only[Option.some.injEq] at h;subst h;rfl
   | cons c r =>
    simp only at h;split at h
    ·cases h
    ·obtain⟨gs',h1,h2⟩:=Option.map_eq_some_iff.1 h;subst h2;rw[List.length_cons,segsT_len d (c::r) gs' h1];rfl
theorem segsT_bd {k u:Nat} {d:Dsk} (hd:okN k u d):∀ (l:List Int) (gs:List Seg),segsT d l=some gs->∀ g∈gs,g.base∈l∧(0<=g.n∧g.n<=u)∧(0<=g.size)
 | [],gs,h=>by simp only[segsT] at h;cases h;simp
 | b::r,gs,h=>by
  have hone:b∈b::r∧(0<=(segT d b).1.n∧(segT d b).1.n<=u)∧0<=(segT d b).1.size:=by
   have:=Nat.le_trans (scanS_len (readF d.files (fileN b)).1 b) (Nat.le_trans (readF_len _ _) hd.used);refine⟨by simp,⟨?_,?_⟩,?_⟩
   ·show 0<=((_:Nat):Int);omega
   ·show((_:Nat):Int)<=_;omega
   ·show 0<=((_:Nat):Int);omega
  rw[segsT_cons] at h;split at h
  ·cases h
  ·cases r with
   | nil=>simp only[Option.some.injEq] at h;subst h;intro g hg;rw[List.mem_singleton.1 hg];exact hone
   | cons c r =>
    simp only at h;split at h
    ·cases h
    ·obtain⟨gs',h1,h2⟩:=Option.map_eq_some_iff.1 h;subst h2;intro g hg;rcases List.mem_cons.1 hg with rfl|hg
     ·exact hone
     ·have:=segsT_bd hd (c::r) gs' h1 g hg;exact⟨List.mem_cons_of_mem _ this.1,this.2⟩
abbrev Rows:=List (Txt × Bool)
def opL (d:Dsk) (m:Man) (sg us:L):List L:=[.d (.l (d.files.map Fil.enc)),.d (.i .i64 d.cap),.d (.b d.armed),.d (.i .i64 d.left),.d (.b d.down),.d (.i .i64 m.ver),.d (.l (m.segs.map eI)),.d (.i .i64 m.size),.d (.i .u32 m.sum),sg,us]
theorem set_get (rows:Rows) (n u:Txt):getM (setM rows n true) u=(decide (n=u) || getM rows u):=by
 induction rows with
 | nil=>by_cases h:n=u <;> simp[setM,getM,h]
 | cons r t ih =>
  simp only[setM];by_cases h:r.1=n
  ·rw[if_pos h];simp only[getM];by_cases h2:n=u
   ·simp[h2]
   ·have:¬ r.1=u:=fun e=>h2 (h ▸ e)
    simp[h2,this]
  ·rw[if_neg h];simp only[getM,ih];by_cases h2:r.1=u
   ·have:¬ n=u:=fun e=>h (h2.trans e.symm)
    simp[h2,this]
   ·simp[h2]
def snapU (m:Man) (rows:Rows):Rows:=if m.segs.headD 0=0 then rows else setM rows (snapN (m.segs.headD 0)) true
set_option maxRecDepth 8000 in
set_option maxHeartbeats 2000000 in
theorem osnap_spec {k u:Nat} (d:Dsk) (hd:okN k u d) (hk:k<=700000) (hu:u<=1000000) (m:Man) (hm:manB m=true) (rows:Rows) :
  call 56 [.one (.p 0 0)] [.cells (opL d m .ns (.m 1)),.mp rows]=some (vb (snapOk d m),[.cells (opL d m .ns (.m 1)),.mp (snapU m rows)]):=by
 have hmb:=manB_t hm;have hmi:=incB_mem _ _ hmb.2.2.1;have g0:=head_at hmb.2.1.1;have hh:0<=m.segs.headD 0∧m.segs.headD 0<=1099511627776:=by
  have hne:=hmb.2.1.1;cases hs:m.segs with
  | nil=>rw[hs] at hne;simp at hne
  | cons b r=>rw[hs] at hmi;have:=hmi b (by simp);simp only[List.headD_cons];omega
 have q3:=snap_int hh;have q4:=read_disk d (Nat.le_trans hd.len (by omega)) hd.srt (snapN (m.segs.headD 0))
 have hrl:=readF_len d.files (snapN (m.segs.headD 0));have hdu:=hd.used;have q5:=sum1_spec (readF d.files (snapN (m.segs.headD 0))).1 (by omega)
 unfold snapOk snapU opL;have hlm:(m.segs.map eI).length=m.segs.length:=by simp
 have hln:1<=m.segs.length:=hmb.2.1.1;generalize m.segs.headD 0=f at *;generalize snapN f=N at *;generalize readF d.files N=rf at *;obtain⟨x,e⟩:=rf;simp only[Dsk.l] at q4 q5 ⊢;apply enterS s56 rfl;by_cases c:f=0
 ·subst c;(simp(disch:=first|decide|omega|(intros;exact Eq.trans rfl rfl)|simp only[puri]) only[wkf,a56,g0,hlm,go_sem,seval,dis,vdr,A.kind,A.xs,optX,A.isN])
  try simp[trim,V.refs,L.refs,Box.refs]
 ·have c0:(0<f):=by omega
  rw[if_neg c];by_cases c1:e=0
  ·subst c1;by_cases c2:((x.length:Nat):Int)=m.size
   ·by_cases c3:sumT x=m.sum
    ·(simp(disch:=first|decide|omega|(intros;exact Eq.trans rfl rfl)|simp only[puri]) only[wkf,a56,g0,hlm,q3,q4,↓iso_callzG_e,czG_b,czK_sl,czR_some,q5,c,eq_true c2,eq_true c3,go_sem,seval,dis,vdr,A.kind,A.xs,optX,A.isN])
     simp[trim,V.refs,L.refs,Box.refs,c0,c2,c3]
    ·(simp(disch:=first|decide|omega|(intros;exact Eq.trans rfl rfl)|simp only[puri]) only[wkf,a56,g0,hlm,q3,q4,↓iso_callzG_e,czG_b,czK_sl,czR_some,q5,c,eq_true c2,eq_false c3,go_sem,seval,dis,vdr,A.kind,A.xs,optX,A.isN])
     simp[trim,V.refs,L.refs,Box.refs,c0,c2,c3]
   ·(simp(disch:=first|decide|omega|(intros;exact Eq.trans rfl rfl)|simp only[puri]) only[wkf,a56,g0,hlm,q3,q4,↓iso_callzG_e,czG_b,czK_sl,czR_some,q5,c,eq_false c2,go_sem,seval,dis,vdr,A.kind,A.xs,optX,A.isN])
    simp[trim,V.refs,L.refs,Box.refs,c0,c2]
  ·(simp(disch:=first|decide|omega|(intros;exact Eq.trans rfl rfl)|simp only[puri]) only[wkf,a56,g0,hlm,q3,q4,↓iso_callzG_e,czG_b,czK_sl,czR_some,q5,c,eq_false c1,go_sem,seval,dis,vdr,A.kind,A.xs,optX,A.isN])
   simp[trim,V.refs,L.refs,Box.refs,c0,c1]
def lastB (m:Man) (i:Nat):Bool:=decide ((i:Int)=(m.segs.length:Int)-1)
def fineB (d:Dsk) (m:Man) (i:Nat) (b:Int):Bool:=lastB m i || (decide ((segT d b).2=0) && decide (b+(segT d b).1.n=m.segs.getD (i+1) 0))
set_option maxRecDepth 8000 in
set_option maxHeartbeats 4000000 in
theorem oseg0_spec {k u:Nat} (d:Dsk) (hd:okN k u d) (hk:k<=700000) (hu:u<=1000000) (m:Man) (hm:manB m=true) (rows:Rows) (i:Nat) (hi:i<m.segs.length) :
  call 57 [.one (.p 0 0),vi i] [.cells (opL d m .ns (.m 1)),.mp rows] =
   if(readF d.files (fileN (m.segs[i]))).2≠0 then some (vb false,[.cells (opL d m .ns (.m 1)),.mp (setM rows (fileN m.segs[i]) true)])
   else some (vb (fineB d m i m.segs[i]),[.cells (opL d m (.sl 3 3 0 1) (.m 1)),.mp (setM rows (fileN m.segs[i]) true),.arr 3 [(segT d m.segs[i]).1.enc] 0,.arr 3 [(segT d m.segs[i]).1.enc] 0]):=by
 have hmb:=manB_t hm;have hmi:=incB_mem _ _ hmb.2.2.1;have hbi:=hmi _ (List.getElem_mem hi);have g1:(m.segs.map eI)[i]?=some [.i .i64 m.segs[i]]:=by rw[List.getElem?_map,List.getElem?_eq_getElem hi];rfl
 have q1:=seg_int (show 0<=m.segs[i]∧m.segs[i]<=1099511627776 by omega)
 have q2:=read_disk d (Nat.le_trans hd.len (by omega)) hd.srt (fileN m.segs[i])
 have hrl:=readF_len d.files (fileN m.segs[i]);have hdu:=hd.used;have q3:=scan_spec (readF d.files (fileN m.segs[i])).1 (Nat.le_trans hrl (Nat.le_trans hdu hu)) m.segs[i] (by omega)
 have hsl:=Nat.le_trans (scanS_len (readF d.files (fileN m.segs[i])).1 m.segs[i]) (Nat.le_trans hrl (Nat.le_trans hdu hu));have hlm:(m.segs.map eI).length=m.segs.length:=by simp
 have hml:=hmb.2.1;unfold fineB lastB segT opL;unfold scanV at q3;simp only[Seg.enc] at q3 ⊢;obtain⟨nx,hnx⟩:∃ nx,nx=m.segs.getD (i+1) 0:=⟨_,rfl⟩;have g2:i+1<m.segs.length->(m.segs.map eI)[i+1]?=some [.i .i64 nx]:=fun h=>by
  rw[List.getElem?_map,List.getElem?_eq_getElem h,hnx,List.getD_eq_getElem?_getD,List.getElem?_eq_getElem h];rfl
 rw[<- hnx];obtain⟨ml,hmle⟩:∃ ml,ml=m.segs.length:=⟨_,rfl⟩;rw[<- hmle] at hlm hml hi g2 ⊢;generalize m.segs[i]=b at *;generalize fileN b=N at *;generalize readF d.files N=rf at *;obtain⟨x,e⟩:=rf;simp only at q2 q3 hsl hrl ⊢;generalize scanS x b=sc at *;obtain⟨sl,sa,se⟩:=sc;simp only[Dsk.l] at q2 q3 hsl ⊢;have hw0:((0:Int)<=(i:Int)):=by omega
 by_cases c:e=0
 ·subst c;rw[if_neg (by simp)]
  apply enterS s57 rfl;by_cases c1:(i:Int)=(ml:Int)-1
  ·(simp(disch:=first|decide|omega|(intros;exact Eq.trans rfl rfl)|simp only[puri]) only[wkf,a57,g1,hlm,q1,q2,q3,eq_true c1,List.length_map,go_sem,seval,dis,vdr,A.kind,A.xs,optX,A.isN])
   simp[trim,V.refs,L.refs,Box.refs,c1]
  ·have hi2:i+1<ml:=by omega
   have g2':=g2 hi2;have ei:((i:Int)+1).toNat=i+1:=by omega
   by_cases c2:se=0
   ·subst c2;by_cases c3:b+(sl.length:Int)=nx
    ·(simp(disch:=first|decide|omega|(intros;exact Eq.trans rfl rfl)|simp only[puri]) only[wkf,a57,g1,hlm,q1,q2,q3,eq_false c1,ei,g2',eq_true c3,List.length_map,go_sem,seval,dis,vdr,A.kind,A.xs,optX,A.isN])
     simp[trim,V.refs,L.refs,Box.refs,c1,c3]
    ·(simp(disch:=first|decide|omega|(intros;exact Eq.trans rfl rfl)|simp only[puri]) only[wkf,a57,g1,hlm,q1,q2,q3,eq_false c1,ei,g2',eq_false c3,List.length_map,go_sem,seval,dis,vdr,A.kind,A.xs,optX,A.isN])
     simp[trim,V.refs,L.refs,Box.refs,c1,c3]
   ·(simp(disch:=first|decide|omega|(intros;exact Eq.trans rfl rfl)|simp only[puri]) only[wkf,a57,g1,hlm,q1,q2,q3,eq_false c1,ei,g2',eq_false c2,List.length_map,go_sem,seval,dis,vdr,A.kind,A.xs,optX,A.isN])
    simp[trim,V.refs,L.refs,Box.refs,c1,c2]
 ·rw[if_pos c];apply enterS s57 rfl;(simp(disch:=first|decide|omega|(intros;exact Eq.trans rfl rfl)|simp only[puri]) only[wkf,a57,g1,hlm,q1,q2,eq_false c,go_sem,seval,dis,vdr,A.kind,A.xs,optX,A.isN])
  simp[trim,V.refs,L.refs,Box.refs]
set_option maxRecDepth 8000 in
set_option maxHeartbeats 4000000 in
theorem oseg1_spec {k u:Nat} (d:Dsk) (hd:okN k u d) (hk:k<=700000) (hu:u<=1000000) (m:Man) (hm:manB m=true) (rows:Rows) (i:Nat) (hi:i<m.segs.length) (gs:List Seg) (hgl:gs.length<=64) :
  call 57 [.one (.p 0 0),vi i] [.cells (opL d m (.sl 1 3 0 gs.length) (.m 2)),.arr 3 (gs.map Seg.enc) 0,.mp rows] =
   if(readF d.files (fileN (m.segs[i]))).2≠0 then some (vb false,[.cells (opL d m (.sl 1 3 0 gs.length) (.m 2)),.arr 3 (gs.map Seg.enc) 0,.mp (setM rows (fileN m.segs[i]) true)])
   else some (vb (fineB d m i m.segs[i]),[.cells (opL d m (.sl 4 3 0 (gs.length+1)) (.m 2)),.dead,.mp (setM rows (fileN m.segs[i]) true),.arr 3 [(segT d m.segs[i]).1.enc] 0,.arr 3 (gs.map Seg.enc++[(segT d m.segs[i]).1.enc]) 0]):=by
 have hmb:=manB_t hm;have hmi:=incB_mem _ _ hmb.2.2.1;have hbi:=hmi _ (List.getElem_mem hi);have g1:(m.segs.map eI)[i]?=some [.i .i64 m.segs[i]]:=by rw[List.getElem?_map,List.getElem?_eq_getElem hi];rfl
 have q1:=seg_int (show 0<=m.segs[i]∧m.segs[i]<=1099511627776 by omega)
 have q2:=read_disk d (Nat.le_trans hd.len (by omega)) hd.srt (fileN m.segs[i])
 have hrl:=readF_len d.files (fileN m.segs[i]);have hdu:=hd.used;have q3:=scan_spec (readF d.files (fileN m.segs[i])).1 (Nat.le_trans hrl (Nat.le_trans hdu hu)) m.segs[i] (by omega)
 have hsl:=Nat.le_trans (scanS_len (readF d.files (fileN m.segs[i])).1 m.segs[i]) (Nat.le_trans hrl (Nat.le_trans hdu hu));have hlm:(m.segs.map eI).length=m.segs.length:=by simp
 have hml:=hmb.2.1;have hgm:(gs.map Seg.enc).length=gs.length:=by simp
 generalize gs.map Seg.enc=G at *;generalize gs.length=gl at *;unfold fineB lastB segT opL;unfold scanV at q3;simp only[Seg.enc] at q3 ⊢;obtain⟨nx,hnx⟩:∃ nx,nx=m.segs.getD (i+1) 0:=⟨_,rfl⟩;have g2:i+1<m.segs.length->(m.segs.map eI)[i+1]?=some [.i .i64 nx]:=fun h=>by
  rw[List.getElem?_map,List.getElem?_eq_getElem h,hnx,List.getD_eq_getElem?_getD,List.getElem?_eq_getElem h];rfl
 rw[<- hnx];obtain⟨ml,hmle⟩:∃ ml,ml=m.segs.length:=⟨_,rfl⟩;rw[<- hmle] at hlm hml hi g2 ⊢;generalize m.segs[i]=b at *;generalize fileN b=N at *;generalize readF d.files N=rf at *;obtain⟨x,e⟩:=rf;simp only at q2 q3 hsl hrl ⊢;generalize scanS x b=sc at *;obtain⟨sl,sa,se⟩:=sc;simp only[Dsk.l] at q2 q3 hsl ⊢;have hw0:((0:Int)<=(i:Int)):=by omega
 by_cases c:e=0
 ·subst c;rw[if_neg (by simp)]
  apply enterS s57 rfl;by_cases c1:(i:Int)=(ml:Int)-1
  ·(simp(disch:=first|decide|omega|(intros;exact Eq.trans rfl rfl)|simp only[puri]) only[wkf,a57,g1,hlm,q1,q2,q3,eq_true c1,hgm,List.length_map,go_sem,seval,dis,vdr,A.kind,A.xs,optX,A.isN])
   simp[trim,V.refs,L.refs,Box.refs,c1]
  ·have hi2:i+1<ml:=by omega
   have g2':=g2 hi2;have ei:((i:Int)+1).toNat=i+1:=by omega
   by_cases c2:se=0
   ·subst c2;by_cases c3:b+(sl.length:Int)=nx
    ·(simp(disch:=first|decide|omega|(intros;exact Eq.trans rfl rfl)|simp only[puri]) only[wkf,a57,g1,hlm,q1,q2,q3,eq_false c1,ei,g2',eq_true c3,hgm,List.length_map,go_sem,seval,dis,vdr,A.kind,A.xs,optX,A.isN])
     simp[trim,V.refs,L.refs,Box.refs,c1,c3]
    ·(simp(disch:=first|decide|omega|(intros;exact Eq.trans rfl rfl)|simp only[puri]) only[wkf,a57,g1,hlm,q1,q2,q3,eq_false c1,ei,g2',eq_false c3,hgm,List.length_map,go_sem,seval,dis,vdr,A.kind,A.xs,optX,A.isN])
     simp[trim,V.refs,L.refs,Box.refs,c1,c3]
   ·(simp(disch:=first|decide|omega|(intros;exact Eq.trans rfl rfl)|simp only[puri]) only[wkf,a57,g1,hlm,q1,q2,q3,eq_false c1,ei,g2',eq_false c2,hgm,List.length_map,go_sem,seval,dis,vdr,A.kind,A.xs,optX,A.isN])
    simp[trim,V.refs,L.refs,Box.refs,c1,c2]
 ·rw[if_pos c];apply enterS s57 rfl;(simp(disch:=first|decide|omega|(intros;exact Eq.trans rfl rfl)|simp only[puri]) only[wkf,a57,g1,hlm,q1,q2,eq_false c,hgm,go_sem,seval,dis,vdr,A.kind,A.xs,optX,A.isN])
  simp[trim,V.refs,L.refs,Box.refs]
theorem oseg0_iso {k u:Nat} (d:Dsk) (hd:okN k u d) (hk:k<=700000) (hu:u<=1000000) (m:Man) (hm:manB m=true) (rows:Rows) (i:Nat) (hi:i<m.segs.length) :
  callIso call 57 [.one (.p 0 0),vi i] [.cells (opL d m .ns (.m 1)),.mp rows] =
   if(readF d.files (fileN (m.segs[i]))).2≠0 then some (vb false,[.cells (opL d m .ns (.m 1)),.mp (setM rows (fileN m.segs[i]) true)])
   else some (vb (fineB d m i m.segs[i]),[.cells (opL d m (.sl 3 3 0 1) (.m 1)),.mp (setM rows (fileN m.segs[i]) true),.arr 3 [(segT d m.segs[i]).1.enc] 0,.arr 3 [(segT d m.segs[i]).1.enc] 0]):=by
 have p:=oseg0_spec d hd hk hu m hm rows i hi;by_cases c:(readF d.files (fileN (m.segs[i]))).2=0
 ·rw[if_neg (by simp[c])] at p ⊢
  exact iso_at (ids:=[0,1]) rfl rfl rfl p rfl
 ·rw[if_pos c] at p ⊢;exact iso_at (ids:=[0,1]) rfl rfl rfl p rfl
theorem oseg1_iso {k u:Nat} (d:Dsk) (hd:okN k u d) (hk:k<=700000) (hu:u<=1000000) (m:Man) (hm:manB m=true) (rows:Rows) (i:Nat) (hi:i<m.segs.length) (gs:List Seg) (hgl:gs.length<=64) :
  callIso call 57 [.one (.p 0 0),vi i] [.cells (opL d m (.sl 1 3 0 gs.length) (.m 2)),.arr 3 (gs.map Seg.enc) 0,.mp rows] =
   if(readF d.files (fileN (m.segs[i]))).2≠0 then some (vb false,[.cells (opL d m (.sl 1 3 0 gs.length) (.m 2)),.arr 3 (gs.map Seg.enc) 0,.mp (setM rows (fileN m.segs[i]) true)])
   else some (vb (fineB d m i m.segs[i]),[.cells (opL d m (.sl 4 3 0 (gs.length+1)) (.m 2)),.dead,.mp (setM rows (fileN m.segs[i]) true),.arr 3 [(segT d m.segs[i]).1.enc] 0,.arr 3 (gs.map Seg.enc++[(segT d m.segs[i]).1.enc]) 0]):=by
 have p:=oseg1_spec d hd hk hu m hm rows i hi gs hgl;by_cases c:(readF d.files (fileN (m.segs[i]))).2=0
 ·rw[if_neg (by simp[c])] at p ⊢
  exact iso_at (ids:=[0,1,2]) rfl rfl rfl p rfl
 ·rw[if_pos c] at p ⊢;exact iso_at (ids:=[0,1,2]) rfl rfl rfl p rfl
def opL0 (d:Dsk):List L:=[.d (.l (d.files.map Fil.enc)),.d (.i .i64 d.cap),.d (.b d.armed),.d (.i .i64 d.left),.d (.b d.down),.d (.i .i64 0),.ns,.d (.i .i64 0),.d (.i .u32 0),.ns,.nm]
def rdH (d:Dsk) (m:Man) (gs:List Seg) (rows:Rows):Hp:=match gs with
 | []=>[.cells (opL d m .ns (.m 1)),.mp rows]
 | g::r=>[.cells (opL d m (.sl 1 3 0 (r.length+1)) (.m 2)),.arr 3 ((g::r).map Seg.enc) 0,.mp rows]
theorem rdH_app (d:Dsk) (m:Man) (gs:List Seg) (x:Seg) (rows:Rows):rdH d m (gs++[x]) rows=[.cells (opL d m (.sl 1 3 0 (gs.length+1)) (.m 2)),.arr 3 (gs.map Seg.enc++[x.enc]) 0,.mp rows]:=by
 cases gs with
 | nil=>rfl
 | cons g r =>
  have e:rdH d m ((g::r)++[x]) rows=[.cells (opL d m (.sl 1 3 0 ((r++[x]).length+1)) (.m 2)),.arr 3 ((g::(r++[x])).map Seg.enc) 0,.mp rows]:=rfl;rw[e];simp
theorem rdH_at (d:Dsk) (m:Man) (gs:List Seg) (rows:Rows) (h:1<=gs.length):rdH d m gs rows=[.cells (opL d m (.sl 1 3 0 gs.length) (.m 2)),.arr 3 (gs.map Seg.enc) 0,.mp rows]:=by
 cases gs with
 | nil=>simp at h
 | cons g r=>rfl
def segsQ (d:Dsk) (m:Man) (z:V × Hp):Prop:=match segsT d m.segs with
 | some gs=>∃ rows:Rows,(∀ u,getM rows u=keepF (useN m) u)∧z=(vb true,[.cells (opL d m (.sl 1 3 0 gs.length) (.m 2)),.arr 3 (gs.map Seg.enc) 0,.mp rows])
 | none=>∃ (b:Box) (T:Hp),z=(vb false,b::T)
theorem segsT_step (d:Dsk) (m:Man) (gs:List Seg) (h:gs.length<m.segs.length) (hi:segsC d gs (m.segs.drop gs.length)=segsT d m.segs) :
  ((readF d.files (fileN m.segs[gs.length])).2≠0->segsT d m.segs=none) ∧
  ((readF d.files (fileN m.segs[gs.length])).2=0->fineB d m gs.length m.segs[gs.length]=false->segsT d m.segs=none) ∧
  ((readF d.files (fileN m.segs[gs.length])).2=0->fineB d m gs.length m.segs[gs.length]=true->segsC d (gs++[(segT d m.segs[gs.length]).1]) (m.segs.drop (gs.length+1))=segsT d m.segs):=by
 rw[<- hi,List.drop_eq_getElem_cons h];unfold segsC;rw[segsT_cons];refine⟨fun c=>by rw[if_pos c];rfl,fun c1 c2=>?_,fun c1 c2=>?_⟩
 ·rw[if_neg (by simp[c1])]
  unfold fineB lastB at c2;simp only[Bool.or_eq_false_iff,Bool.and_eq_false_iff,decide_eq_false_iff_not] at c2;have h2:gs.length+1<m.segs.length:=by omega
  rw[List.drop_eq_getElem_cons h2];simp only;rw[List.getD_eq_getElem?_getD,List.getElem?_eq_getElem h2] at c2;rw[if_pos (by simpa using c2.2)]
  try rfl
 ·rw[if_neg (by simp[c1])]
  unfold fineB lastB at c2;simp only[Bool.or_eq_true,Bool.and_eq_true,decide_eq_true_eq] at c2;by_cases h2:gs.length+1<m.segs.length
  ·rcases c2 with c2|c2
   ·omega
   ·rw[List.getD_eq_getElem?_getD,List.getElem?_eq_getElem h2] at c2;have e:=List.drop_eq_getElem_cons h2;rw[e];simp only;rw[if_neg (by simpa using c2),<- e,Option.map_map]
    congr 1
    funext x
    simp
  ·rw[List.drop_eq_nil_of_le (by omega)]
   simp[segsT]
theorem rows_step {m:Man} {rows:Rows} {i:Nat} (h:i<m.segs.length) (hr:∀ u,getM rows u=keepF (useS m++(m.segs.take i).map fileN) u):∀ u,getM (setM rows (fileN m.segs[i]) true) u=keepF (useS m++(m.segs.take (i+1)).map fileN) u:=by
 intro u;rw[set_get,hr,List.take_succ_eq_append_getElem h,List.map_append,<- List.append_assoc];unfold keepF;rw[List.any_append,List.any_append,List.any_append];simp only[List.map_cons,List.map_nil,List.any_cons,List.any_nil,Bool.or_false];rw[Bool.or_comm]
theorem rows_snap {m:Man} (hh:0<=m.segs.headD 0):∀ u,getM (snapU m (setM [] [109] true)) u=keepF (useS m++(m.segs.take 0).map fileN) u:=by
 intro u;unfold snapU useS keepF;by_cases c:m.segs.headD 0=0
 ·rw[if_pos c,if_neg (by omega),set_get]
  simp[getM]
 ·rw[if_neg c,if_pos (by omega),set_get,set_get]
  simp[getM,Bool.or_comm]
def readQ (d:Dsk) (s:Txt) (z:V × Hp):Prop:=match decM s with
 | some m=>if snapOk d m=true then segsQ d m z else ∃ (b:Box) (T:Hp),z=(vb false,b::T)
 | none=>∃ (b:Box) (T:Hp),z=(vb false,b::T)
set_option maxRecDepth 8000 in
set_option maxHeartbeats 8000000 in
theorem oread_spec {k u:Nat} (d:Dsk) (hd:okN k u d) (hk:k<=700000) (hu:u<=1000000) (s:Txt) (hs:s.length<=1000000) :
  ∃ z,call 25 [.one (.p 0 0),vs s] [.cells (opL0 d)]=some z∧readQ d s z:=by
 obtain⟨Z,q1,q2,q3⟩:=getM_spec s hs;apply enterE s25 rfl;unfold readQ;cases hdm:decM s with
 | none =>
  obtain⟨e,he,rfl⟩:=q3 hdm;unfold errM zeroM at q1;simp only[opL0];(simp(disch:=first|decide|omega|(intros;exact Eq.trans rfl rfl)|simp only[puri]) only[wkf,a25,q1,he,go_sem,seval,dis,vdr,A.kind,A.xs,optX,A.isN])
  exact⟨_,rfl,_,_,by simp[trim,V.refs,L.refs,Box.refs];exact⟨rfl,rfl⟩⟩
 | some m =>
  have hZ:=q2 m hdm;subst hZ;have hm:=(dec_some hdm).1;have hmb:=manB_t hm;have hmi:=incB_mem _ _ hmb.2.2.1;have hne:=hmb.2.1;have hh:0<=m.segs.headD 0:=by
   cases hs:m.segs with
   | nil=>simp
   | cons b r=>rw[hs] at hmi;have:=hmi b (by simp);simp only[List.headD_cons];omega
  have p1:=osnap_spec d hd hk hu m hm (setM [] [109] true);have hrs:=rows_snap hh;have e2:∀ B:Box,callIso call 56 [.one (.p 0 0)] [.cells (opL d m .ns (.m 2)),B,.mp (setM [] [109] true)]=some (vb (snapOk d m),[.cells (opL d m .ns (.m 2)),B,.mp (snapU m (setM [] [109] true))]):=fun B =>
   iso_at (ids:=[0,2]) rfl rfl rfl p1 rfl
  have hml:m.l=[.d (.i .i64 m.ver),.d (.l (m.segs.map eI)),.d (.i .i64 m.size),.d (.i .u32 m.sum)]:=rfl;have hlm:(m.segs.map eI).length=m.segs.length:=by simp
  unfold manV4 at q1;rw[hml] at q1;simp only[opL0];simp only[opL] at e2;generalize snapU m (setM [] [109] true)=rw0 at *;cases hso:snapOk d m with
  | false =>
   rw[hso] at e2;simp only[Bool.false_eq_true,if_false];(simp(disch:=first|decide|omega|(intros;exact Eq.trans rfl rfl)|simp only[puri]) only[wkf,a25,q1,e2,go_sem,seval,dis,vdr,A.kind,A.xs,optX,A.isN])
   exact⟨_,rfl,_,_,by simp[trim,V.refs,L.refs,Box.refs];exact⟨rfl,rfl⟩⟩
  | true =>
   rw[hso] at e2;simp only[if_true];(simp(disch:=first|decide|omega|(intros;exact Eq.trans rfl rfl)|simp only[puri]) only[wkf,a25,q1,e2,hlm,go_sem,seval,dis,vdr,A.kind,A.xs,optX,A.isN])
   refine loop_ex (m:=1) (σ:=List Seg × Rows) (fun t=>m.segs.length-t.1.length) (fun t=>t.1.length<=m.segs.length∧segsC d t.1 (m.segs.drop t.1.length)=segsT d m.segs∧∀ u,getM t.2 u=keepF (useS m++(m.segs.take t.1.length).map fileN) u)
    (fun t=>[.one (.p 0 0),vi m.segs.length,vi t.1.length]) (fun t=>rdH d m t.1 t.2) (segsQ d m) ?_ ([],rw0) ⟨Nat.zero_le _,by simp[segsC],hrs⟩ _ _ ?_
   rotate_left
   ·exact hdM
   rintro⟨gs,rows⟩ ⟨h1,h2,h3⟩ R hR;simp only at h1 h2 h3 ⊢;by_cases c:gs.length<m.segs.length
   ·have hc:((gs.length:Nat):Int)<(m.segs.length:Int):=by omega
    have hst:=segsT_step d m gs c h2;have hrw:=rows_step c h3;have hR':=hR (gs++[(segT d m.segs[gs.length]).1],setM rows (fileN m.segs[gs.length]) true);simp only[rdH_app,List.length_append,List.length_cons,List.length_nil,Nat.zero_add] at hR';by_cases h0:gs=[]
    ·subst h0;have hz0:((0:Nat):Int)=0:=rfl;have p2:=oseg0_iso d hd hk hu m hm rows 0 c;simp only[List.length_nil,Nat.zero_add,List.map_nil,List.nil_append] at hst hrw hR' p2 ⊢;simp only[rdH,opL] at p2 hR' ⊢;simp only[hz0] at p2 hc ⊢;by_cases c1:(readF d.files (fileN m.segs[0])).2=0
     ·rw[if_neg (by simp[c1])] at p2
      cases c2:fineB d m 0 m.segs[0] with
      | false =>
       have hno:=hst.2.1 c1 c2;rw[c2] at p2;clear hR hR' hst;generalize setM rows (fileN m.segs[0]) true=rows2 at *;generalize (segT d m.segs[0]).1.enc=x at *;(simp(disch:=first|decide|omega|(intros;exact Eq.trans rfl rfl)|simp only[puri]) only[wkf,a25_0,decide_eq_true hc,p2,go_sem,seval,dis,vdr,A.kind,A.xs,optX,A.isN])
       refine⟨_,rfl,?_⟩;unfold segsQ;rw[hno];exact⟨_,_,by simp[trim,V.refs,L.refs,Box.refs];exact⟨rfl,rfl⟩⟩
      | true =>
       have hyes:=hst.2.2 c1 c2;rw[c2] at p2;have hK:=hR' (by omega) ⟨by omega,hyes,hrw⟩
       clear hR hR' hst hyes hrw;generalize setM rows (fileN m.segs[0]) true=rows2 at *;generalize (segT d m.segs[0]).1.enc=x at *;(simp(disch:=first|decide|omega|(intros;exact Eq.trans rfl rfl)|simp only[puri]) only[wkf,a25_0,decide_eq_true hc,p2,go_sem,seval,dis,vdr,A.kind,A.xs,optX,A.isN])
       exact hK _ _ hdM
     ·rw[if_pos c1] at p2;have hno:=hst.1 c1;clear hR hR' hst;generalize setM rows (fileN m.segs[0]) true=rows2 at *;(simp(disch:=first|decide|omega|(intros;exact Eq.trans rfl rfl)|simp only[puri]) only[wkf,a25_0,decide_eq_true hc,p2,go_sem,seval,dis,vdr,A.kind,A.xs,optX,A.isN])
      refine⟨_,rfl,?_⟩;unfold segsQ;rw[hno];exact⟨_,_,by simp[trim,V.refs,L.refs,Box.refs];exact⟨rfl,rfl⟩⟩
    ·have hg1:1<=gs.length:=List.length_pos_iff.2 h0;rw[rdH_at d m gs rows hg1];have p2:=oseg1_iso d hd hk hu m hm rows gs.length c gs (by omega)
     have hgm:(gs.map Seg.enc).length=gs.length:=by simp
     simp only[opL] at p2 hR' ⊢;by_cases c1:(readF d.files (fileN m.segs[gs.length])).2=0
     ·rw[if_neg (by simp[c1])] at p2
      cases c2:fineB d m gs.length m.segs[gs.length] with
      | false =>
       have hno:=hst.2.1 c1 c2;rw[c2] at p2;clear hR hR' hst;generalize setM rows (fileN m.segs[gs.length]) true=rows2 at *;generalize (segT d m.segs[gs.length]).1.enc=x at *;generalize gs.map Seg.enc=G at *;(simp(disch:=first|decide|omega|(intros;exact Eq.trans rfl rfl)|simp only[puri]) only[wkf,a25_0,decide_eq_true hc,p2,go_sem,seval,dis,vdr,A.kind,A.xs,optX,A.isN])
       refine⟨_,rfl,?_⟩;unfold segsQ;rw[hno];exact⟨_,_,by simp[trim,V.refs,L.refs,Box.refs];exact⟨rfl,rfl⟩⟩
      | true =>
       have hyes:=hst.2.2 c1 c2;rw[c2] at p2;have hK:=hR' (by omega) ⟨by omega,hyes,hrw⟩
       clear hR hR' hst hyes hrw;generalize setM rows (fileN m.segs[gs.length]) true=rows2 at *;generalize (segT d m.segs[gs.length]).1.enc=x at *;generalize gs.map Seg.enc=G at *;(simp(disch:=first|decide|omega|(intros;exact Eq.trans rfl rfl)|simp only[puri]) only[wkf,a25_0,decide_eq_true hc,p2,go_sem,seval,dis,vdr,A.kind,A.xs,optX,A.isN])
       exact hK _ _ hdM
     ·rw[if_pos c1] at p2;have hno:=hst.1 c1;clear hR hR' hst;generalize setM rows (fileN m.segs[gs.length]) true=rows2 at *;generalize gs.map Seg.enc=G at *;(simp(disch:=first|decide|omega|(intros;exact Eq.trans rfl rfl)|simp only[puri]) only[wkf,a25_0,decide_eq_true hc,p2,go_sem,seval,dis,vdr,A.kind,A.xs,optX,A.isN])
      refine⟨_,rfl,?_⟩;unfold segsQ;rw[hno];exact⟨_,_,by simp[trim,V.refs,L.refs,Box.refs];exact⟨rfl,rfl⟩⟩
   ·have hc:¬ ((gs.length:Nat):Int)<(m.segs.length:Int):=by omega
    have hgl:gs.length=m.segs.length:=by omega
    rw[hgl,List.drop_eq_nil_of_le (Nat.le_refl _)] at h2;rw[hgl,List.take_length] at h3;have h4:segsT d m.segs=some gs:=by rw[<- h2];simp[segsC,segsT]
    clear hR;rw[rdH_at d m gs rows (by omega)]
    simp only[opL];(simp(disch:=first|decide|omega|(intros;exact Eq.trans rfl rfl)|simp only[puri]) only[wkf,a25_0,a25,decide_eq_false hc,go_sem,seval,dis,vdr,A.kind,A.xs,optX,A.isN])
    refine⟨_,rfl,?_⟩;unfold segsQ;rw[h4];refine⟨rows,h3,?_⟩;simp[trim,V.refs,L.refs,Box.refs,opL]
theorem keep_nil (n:Txt):keepF [] n=false:=rfl
set_option maxRecDepth 8000 in
set_option maxHeartbeats 4000000 in
theorem sweep0_spec {k u:Nat} (d:Dsk) (hd:okN k u d) (hk:k<=700000) (hu:u<=900000000000):call 23 [.one (.p 0 0)] [.cells (opL0 d)]=some (vi (sweepT [] d).2,[.cells (opL0 (sweepT [] d).1)]):=by
 have q1:=pnames_spec d (Nat.le_trans hd.len (by omega))
 obtain⟨Z,hZ⟩:∃ Z,Z=sweepT [] d:=⟨_,rfl⟩;rw[<- hZ];unfold sweepT at hZ;have hnl:(namesF d.files).length<=1000000:=by have:=hd.len;simp[namesF];omega
 obtain⟨⟨zfl,zcp,zar,zlf,zdn⟩,ze⟩:=Z;generalize namesF d.files=NL at *;simp only[Dsk.l,opL0] at q1 ⊢;have hml:(NL.map eT).length=NL.length:=by simp
 apply enterS s23 rfl;(simp(disch:=first|decide|omega|(intros;exact Eq.trans rfl rfl)|simp only[puri]) only[wkf,a23,q1,hml,go_sem,seval,dis])
 refine loop_boxM (m:=1) (σ:=Nat × Dsk) (fun t=>NL.length-t.1) (fun t=>t.1<=NL.length∧okN k u t.2∧sweepG [] (NL.drop t.1) (t.2,0)=(⟨zfl,zcp,zar,zlf,zdn⟩,ze)) (fun t=>[V.one (.p 0 0),vl (NL.map eT),vi NL.length,vi t.1])
  (fun t=>[.cells [.d (.l (t.2.files.map Fil.enc)),.d (.i .i64 t.2.cap),.d (.b t.2.armed),.d (.i .i64 t.2.left),.d (.b t.2.down),.d (.i .i64 0),.ns,.d (.i .i64 0),.d (.i .u32 0),.ns,.nm]])
  (fun _=>((vi ze,[.cells [.d (.l (zfl.map Fil.enc)),.d (.i .i64 zcp),.d (.b zar),.d (.i .i64 zlf),.d (.b zdn),.d (.i .i64 0),.ns,.d (.i .i64 0),.d (.i .u32 0),.ns,.nm]]):V × Hp)) ?_ (0,d) ⟨Nat.zero_le _,hd,hZ.symm⟩ _ _ ?_
 rotate_left
 ·exact hdM
 rintro⟨i,dd⟩ ⟨h1,h2,h3⟩ R hR;simp only at h1 h2 h3 ⊢;by_cases c:i<NL.length
 ·have hc:(i:Int)<(NL.length:Int):=by omega
  rw[List.drop_eq_getElem_cons c,sweepG_cons] at h3;have g1:(NL.map eT)[i]?=some [.s NL[i]]:=by rw[List.getElem?_map,List.getElem?_eq_getElem c];rfl
  generalize NL[i]=n at *;cases hkp:keepF [] n with
  | true =>
   rw[keep_nil] at hkp;cases hkp
  | false =>
   rw[hkp,if_neg (by simp)] at h3
   have g2:=delete_spec dd (h2.ok (by omega) (by omega)) n
   have kk:=del_okN (s:=(dd,0)) h2 n;rw[show delS n (dd,0)=chgF dd (delR dd.files n) from stp_ye _ _] at kk h3
   have hRn:=fun h=>hR (i+1,(chgF dd (delR dd.files n)).1) (by simp only[];omega) ⟨by simp only[];omega,kk,h⟩
   generalize chgF dd (delR dd.files n)=q at *;obtain⟨⟨qfl,qcp,qar,qlf,qdn⟩,qe⟩:=q;obtain⟨fl,cp,ar,lf,dn⟩:=dd;simp only[dskV,Dsk.l] at g2 h3 hRn ⊢;clear hR;by_cases c2:qe=0
   ·subst c2;(simp(disch:=first|decide|omega|(intros;exact Eq.trans rfl rfl)|simp only[puri]) only[wkf,a23_0,decide_eq_true hc,g1,g2,go_sem,seval,dis])
    exact hRn h3 _ _ hdM
   ·have e:sweepG [] (NL.drop (i+1)) (⟨qfl,qcp,qar,qlf,qdn⟩,qe)=(⟨qfl,qcp,qar,qlf,qdn⟩,qe):=goP_err _ _ c2;rw[e] at h3;cases h3;(simp(disch:=first|decide|omega|(intros;exact Eq.trans rfl rfl)|simp only[puri]) only[wkf,a23_0,decide_eq_true hc,g1,g2,eq_false c2,go_sem,seval,dis])
    try simp[trim,V.refs,L.refs,Box.refs]
 ·have hc:¬ (i:Int)<(NL.length:Int):=by omega
  rw[List.drop_eq_nil_of_le (by omega)] at h3
  cases h3;(simp(disch:=first|decide|omega|(intros;exact Eq.trans rfl rfl)|simp only[puri]) only[wkf,a23_0,a23,decide_eq_false hc,go_sem,seval,dis])
  try simp[trim,V.refs,L.refs,Box.refs]
set_option maxRecDepth 8000 in
set_option maxHeartbeats 4000000 in
theorem sweep1_spec {k u:Nat} (d:Dsk) (hd:okN k u d) (hk:k<=700000) (hu:u<=900000000000) (m:Man) (n0:Nat) (G:List (List D)) (rows:Rows) (use:List Txt) (hr:∀ v,getM rows v=keepF use v):call 23 [.one (.p 0 0)] [.cells (opL d m (.sl 1 3 0 n0) (.m 2)),.arr 3 G 0,.mp rows]=some (vi (sweepT use d).2,[.cells (opL (sweepT use d).1 m (.sl 1 3 0 n0) (.m 2)),.arr 3 G 0,.mp rows]):=by
 have q1:=pnames_spec d (Nat.le_trans hd.len (by omega))
 obtain⟨Z,hZ⟩:∃ Z,Z=sweepT use d:=⟨_,rfl⟩;rw[<- hZ];unfold sweepT at hZ;have hnl:(namesF d.files).length<=1000000:=by have:=hd.len;simp[namesF];omega
 obtain⟨⟨zfl,zcp,zar,zlf,zdn⟩,ze⟩:=Z;generalize namesF d.files=NL at *;simp only[Dsk.l,opL] at q1 ⊢;have hml:(NL.map eT).length=NL.length:=by simp
 apply enterS s23 rfl;(simp(disch:=first|decide|omega|(intros;exact Eq.trans rfl rfl)|simp only[puri]) only[wkf,a23,q1,hml,go_sem,seval,dis])
 refine loop_boxM (m:=3) (σ:=Nat × Dsk) (fun t=>NL.length-t.1) (fun t=>t.1<=NL.length∧okN k u t.2∧sweepG use (NL.drop t.1) (t.2,0)=(⟨zfl,zcp,zar,zlf,zdn⟩,ze)) (fun t=>[V.one (.p 0 0),vl (NL.map eT),vi NL.length,vi t.1])
  (fun t=>[.cells [.d (.l (t.2.files.map Fil.enc)),.d (.i .i64 t.2.cap),.d (.b t.2.armed),.d (.i .i64 t.2.left),.d (.b t.2.down),.d (.i .i64 m.ver),.d (.l (m.segs.map eI)),.d (.i .i64 m.size),.d (.i .u32 m.sum),.sl 1 3 0 n0,.m 2],.arr 3 G 0,.mp rows])
  (fun _=>((vi ze,[.cells [.d (.l (zfl.map Fil.enc)),.d (.i .i64 zcp),.d (.b zar),.d (.i .i64 zlf),.d (.b zdn),.d (.i .i64 m.ver),.d (.l (m.segs.map eI)),.d (.i .i64 m.size),.d (.i .u32 m.sum),.sl 1 3 0 n0,.m 2],.arr 3 G 0,.mp rows]):V × Hp)) ?_ (0,d) ⟨Nat.zero_le _,hd,hZ.symm⟩ _ _ ?_
 rotate_left
 ·exact hdM
 rintro⟨i,dd⟩ ⟨h1,h2,h3⟩ R hR;simp only at h1 h2 h3 ⊢;by_cases c:i<NL.length
 ·have hc:(i:Int)<(NL.length:Int):=by omega
  rw[List.drop_eq_getElem_cons c,sweepG_cons] at h3;have g1:(NL.map eT)[i]?=some [.s NL[i]]:=by rw[List.getElem?_map,List.getElem?_eq_getElem c];rfl
  generalize NL[i]=n at *;cases hkp:keepF use n with
  | true =>
   rw[hkp,if_pos rfl] at h3;have hmg:=(hr n).trans hkp;have hRk:=hR (i+1,dd) (by simp only[];omega) ⟨by simp only[];omega,h2,h3⟩
   (simp(disch:=first|decide|omega|(intros;exact Eq.trans rfl rfl)|simp only[puri]) only[wkf,a23_0,decide_eq_true hc,g1,hmg,go_sem,seval,dis])
   exact hRk _ _ hdM
  | false =>
   rw[hkp,if_neg (by simp)] at h3
   have g2:=delete_spec dd (h2.ok (by omega) (by omega)) n
   have kk:=del_okN (s:=(dd,0)) h2 n;rw[show delS n (dd,0)=chgF dd (delR dd.files n) from stp_ye _ _] at kk h3
   have hRn:=fun h=>hR (i+1,(chgF dd (delR dd.files n)).1) (by simp only[];omega) ⟨by simp only[];omega,kk,h⟩
   generalize chgF dd (delR dd.files n)=q at *;obtain⟨⟨qfl,qcp,qar,qlf,qdn⟩,qe⟩:=q;obtain⟨fl,cp,ar,lf,dn⟩:=dd;simp only[dskV,Dsk.l] at g2 h3 hRn ⊢;have hmg:=(hr n).trans hkp;clear hR;by_cases c2:qe=0
   ·subst c2;(simp(disch:=first|decide|omega|(intros;exact Eq.trans rfl rfl)|simp only[puri]) only[wkf,a23_0,decide_eq_true hc,g1,g2,hmg,go_sem,seval,dis])
    exact hRn h3 _ _ hdM
   ·have e:sweepG use (NL.drop (i+1)) (⟨qfl,qcp,qar,qlf,qdn⟩,qe)=(⟨qfl,qcp,qar,qlf,qdn⟩,qe):=goP_err _ _ c2;rw[e] at h3;cases h3;(simp(disch:=first|decide|omega|(intros;exact Eq.trans rfl rfl)|simp only[puri]) only[wkf,a23_0,decide_eq_true hc,g1,g2,eq_false c2,hmg,go_sem,seval,dis])
    try simp[trim,V.refs,L.refs,Box.refs]
 ·have hc:¬ (i:Int)<(NL.length:Int):=by omega
  rw[List.drop_eq_nil_of_le (by omega)] at h3
  cases h3;(simp(disch:=first|decide|omega|(intros;exact Eq.trans rfl rfl)|simp only[puri]) only[wkf,a23_0,a23,decide_eq_false hc,go_sem,seval,dis])
  try simp[trim,V.refs,L.refs,Box.refs]
theorem last_at {gs:List Seg} (h:1<=gs.length):(gs.map Seg.enc)[gs.length-1]?=some (gs.getLastD ⟨0,0,0⟩).enc:=by
 have hl:gs.length-1<gs.length:=by omega
 rw[List.getElem?_map,List.getElem?_eq_getElem hl,List.getLastD_eq_getLast?,List.getLast?_eq_getElem?,List.getElem?_eq_getElem hl];rfl
set_option maxRecDepth 8000 in
set_option maxHeartbeats 4000000 in
theorem mend_spec {k u:Nat} (d:Dsk) (hd:okN k u d) (hk:k<=700000) (hu:u<=1000000) (m:Man) (rows:Rows) (gs:List Seg) (hg:1<=gs.length∧gs.length<=64) (hb:0<=(gs.getLastD ⟨0,0,0⟩).base∧(gs.getLastD ⟨0,0,0⟩).base<=1099511627776) :
  call 26 [.one (.p 0 0)] [.cells (opL d m (.sl 1 3 0 gs.length) (.m 2)),.arr 3 (gs.map Seg.enc) 0,.mp rows]=some (vi (mendT d (gs.getLastD ⟨0,0,0⟩)).2,[.cells (opL (mendT d (gs.getLastD ⟨0,0,0⟩)).1 m (.sl 1 3 0 gs.length) (.m 2)),.arr 3 (gs.map Seg.enc) 0,.mp rows]):=by
 have g1:=last_at hg.1;have hgm:(gs.map Seg.enc).length=gs.length:=by simp
 have hn1:(gs.length:Int)-1=((gs.length-1:Nat):Int):=by omega
 have hn2:((gs.length:Int)-1).toNat=gs.length-1:=by omega
 generalize gs.getLastD ⟨0,0,0⟩=g at *;generalize gs.map Seg.enc=G at *;obtain⟨gn,hgn⟩:∃ gn,gn=gs.length:=⟨_,rfl⟩;rw[<- hgn] at hg hgm hn1 hn2 g1 ⊢;have q1:=seg_int hb;have q2:=read_disk d (Nat.le_trans hd.len (by omega)) hd.srt (fileN g.base)
 have q3:=cut_disk d (hd.ok (by omega) (by omega)) (fileN g.base) g.size
 have k3:=cut_okN hd g;have q4:=sync_disk d (hd.ok (by omega) (by omega)) (fileN g.base)
 have q5:=sync_disk _ (k3.ok (by omega) (by omega)) (fileN g.base)
 unfold mendT;have e0:∀ d:Dsk,synS (fileN g.base) (d,0)=chgF d (synR d.files (fileN g.base)):=fun d=>stp_ye _ _
 have e1:∀ (d:Dsk) (e:Int),e≠0->synS (fileN g.base) (d,e)=(d,e):=fun d e h=>by unfold synS stp;rw[if_neg h]
 obtain⟨gb,gnn,gz⟩:=g;simp only[Seg.enc] at g1 hb q1 q2 q3 q4 q5 e0 e1 ⊢;generalize fileN gb=N at *;have hrl:=readF_len d.files N;have hdu:=hd.used;generalize readF d.files N=rf at *;obtain⟨x,e⟩:=rf;simp only at q2 hrl ⊢;by_cases c:gz<((x.length:Nat):Int)
 ·rw[if_pos c];generalize chgF d (cutR d.files N gz)=w at *;obtain⟨w1,we⟩:=w;by_cases c1:we=0
  ·subst c1;rw[e0];simp only at q5 ⊢;generalize chgF w1 (synR w1.files N)=y at *;obtain⟨⟨yfl,ycp,yar,ylf,ydn⟩,ye⟩:=y;obtain⟨wfl,wcp,war,wlf,wdn⟩:=w1;obtain⟨fl,cp,ar,lf,dn⟩:=d;simp only[dskV,Dsk.l,opL] at q2 q3 q5 ⊢;clear e0 e1 q4 k3;apply enterS s26 rfl;(simp(disch:=first|decide|omega|(intros;exact Eq.trans rfl rfl)|simp only[puri]) only[wkf,a26,hgm,hn1,hn2,g1,q1,q2,decide_eq_true c,q3,q5,go_sem,seval,dis,vdr,A.kind,A.xs,optX,A.isN])
   try simp[trim,V.refs,L.refs,Box.refs]
  ·rw[e1 _ _ c1];obtain⟨wfl,wcp,war,wlf,wdn⟩:=w1;obtain⟨fl,cp,ar,lf,dn⟩:=d;simp only[dskV,Dsk.l,opL] at q2 q3 ⊢;clear e0 e1 q4 q5 k3;apply enterS s26 rfl;(simp(disch:=first|decide|omega|(intros;exact Eq.trans rfl rfl)|simp only[puri]) only[wkf,a26,hgm,hn1,hn2,g1,q1,q2,decide_eq_true c,q3,eq_false c1,go_sem,seval,dis,vdr,A.kind,A.xs,optX,A.isN])
   try simp[trim,V.refs,L.refs,Box.refs]
 ·rw[if_neg c,e0];generalize chgF d (synR d.files N)=y at *;obtain⟨⟨yfl,ycp,yar,ylf,ydn⟩,ye⟩:=y;obtain⟨fl,cp,ar,lf,dn⟩:=d;simp only[dskV,Dsk.l,opL] at q2 q4 ⊢;clear e0 e1 q3 q5 k3;apply enterS s26 rfl;(simp(disch:=first|decide|omega|(intros;exact Eq.trans rfl rfl)|simp only[puri]) only[wkf,a26,hgm,hn1,hn2,g1,q1,q2,decide_eq_false c,q4,go_sem,seval,dis,vdr,A.kind,A.xs,optX,A.isN])
  try simp[trim,V.refs,L.refs,Box.refs]
set_option maxRecDepth 20000 in
set_option maxHeartbeats 8000000 in
theorem popen_spec {k u:Nat} (d:Dsk) (hd:okN k u d) (hk:k<=700000) (hu:u<=1000000):call 10 [.agg d.l] []=some (stoV (openT d),[]):=by
 have hrd:=fun n=>read_disk d (Nat.le_trans hd.len (by omega)) hd.srt n
 have hcell:∀ s:Sto,s.l=[.d (.l (s.disk.files.map Fil.enc)),.d (.i .i64 s.disk.cap),.d (.b s.disk.armed),.d (.i .i64 s.disk.left),.d (.b s.disk.down),.d (.i .i64 s.ver),.d (.l (s.segs.map Seg.enc)),.d (.i .i64 s.next),.d (.i .i64 s.sure),.d (.i .i64 s.size),.d (.i .u32 s.sum)]:=fun _=>rfl
 have hdl:∀ d:Dsk,d.l=([.d (.l (d.files.map Fil.enc)),.d (.i .i64 d.cap),.d (.b d.armed),.d (.i .i64 d.left),.d (.b d.down)]:List L):=fun _=>rfl
 have hds:∀ d:Dsk,[.d (.l ((deadS d).disk.files.map Fil.enc)),.d (.i .i64 (deadS d).disk.cap),.d (.b (deadS d).disk.armed),.d (.i .i64 (deadS d).disk.left),.d (.b (deadS d).disk.down),.d (.i .i64 (deadS d).ver),.d (.l ((deadS d).segs.map Seg.enc)),.d (.i .i64 (deadS d).next),.d (.i .i64 (deadS d).sure),.d (.i .i64 (deadS d).size),.d (.i .u32 (deadS d).sum)]=([.d (.l (d.files.map Fil.enc)),.d (.i .i64 d.cap),.d (.b d.armed),.d (.i .i64 d.left),.d (.b d.down),.d (.i .i64 0),.d (.l []),.d (.i .i64 0),.d (.i .i64 0),.d (.i .i64 0),.d (.i .u32 0)]:List L):=fun _=>rfl
 unfold openT;apply enterS s10 rfl;by_cases c0:d.down=true
 ·rw[if_pos c0];simp only[stoV,hcell,hds,hdl] at hrd ⊢;rw[c0];(simp(disch:=first|decide|omega|(intros;exact Eq.trans rfl rfl)|simp only[puri]) only[wkf,a10,go_sem,seval,dis])
  try simp[trim]
 ·rw[if_neg c0];have c0':d.down=false:=by simpa using c0
  have q1:=hrd [109];have hrl:=readF_len d.files [109];have hdu:=hd.used;by_cases c1:(readF d.files [109]).2=0
  ·rw[if_neg (by simp[c1])]
   obtain⟨z,q2,hq⟩:=oread_spec d hd hk hu (readF d.files [109]).1 (by omega)
   unfold readQ at hq;have hbad:(∃ (b:Box) (T:Hp),z=(vb false,b::T))->∃ (b:Box) (T:Hp),∀ B0 B1:Box,callIso call 25 [.one (.p 2 0),vs (readF d.files [109]).1] [B0,B1,.cells (opL0 d)]=some (vb false,B0::B1::b::T):=by
    rintro⟨b,T,rfl⟩;exact⟨Box.ren (fun j=>if j<1 then[2][j]? else some (3+(j-1))) b,T.map (Box.ren (fun j=>if j<1 then[2][j]? else some (3+(j-1)))),fun B0 B1=>iso_at (ids:=[2]) rfl rfl rfl q2 rfl⟩
   have hbd:(∃ (b:Box) (T:Hp),∀ B0 B1:Box,callIso call 25 [.one (.p 2 0),vs (readF d.files [109]).1] [B0,B1,.cells (opL0 d)]=some (vb false,B0::B1::b::T))->goU call ([]:Hp).length (finK a10.res a10.keep ([]:Hp).length) a10.body (frameOf a10.ntmps (argF [.agg d.l])) [] []=some (stoV (deadS d,3),[]):=by
    rintro⟨b,T,f2⟩;generalize readF d.files [109]=rf at *;simp only[stoV,hcell,hds,hdl,opL0] at q1 f2 ⊢;rw[c0'] at q1 f2 ⊢;clear q2 hq hbad;(simp(disch:=first|decide|omega|(intros;exact Eq.trans rfl rfl)|simp only[puri]) only[wkf,a10,q1,c1,f2,go_sem,seval,dis])
    try simp[trim]
   cases hdm:decM (readF d.files [109]).1 with
   | none =>
    rw[hdm] at hq;exact hbd (hbad hq)
   | some m =>
    rw[hdm] at hq;simp only at hq ⊢;unfold openR;cases hso:snapOk d m with
    | false =>
     rw[hso] at hq;simp only[Bool.false_eq_true,if_false] at hq ⊢;exact hbd (hbad hq)
    | true =>
     rw[hso] at hq;simp only[if_true] at hq ⊢;unfold segsQ at hq;cases hsg:segsT d m.segs with
     | none =>
      rw[hsg] at hq;exact hbd (hbad hq)
     | some gs =>
      rw[hsg] at hq;simp only at hq ⊢;obtain⟨rows,hr,rfl⟩:=hq;clear hbad hbd;have hm:=(dec_some hdm).1;have hmb:=manB_t hm;have hmi:=incB_mem _ _ hmb.2.2.1;have hgl:=segsT_len d _ _ hsg;have hgb:=segsT_bd hd _ _ hsg;have hlast:gs.getLastD ⟨0,0,0⟩∈gs:=by
       have hne:gs≠[]:=fun h=>by rw[h] at hgl;simp at hgl;omega
       rw[List.getLastD_eq_getLast?,List.getLast?_eq_some_getLast hne];exact List.getLast_mem hne
      have hg1:=hgb _ hlast;have hg2:=hmi _ hg1.1;have g1:=last_at (gs:=gs) (by omega)
      have hgm:(gs.map Seg.enc).length=gs.length:=by simp
      have hn1:(gs.length:Int)-1=((gs.length-1:Nat):Int):=by omega
      have hn2:((gs.length:Int)-1).toNat=gs.length-1:=by omega
      have htk:List.take gs.length (gs.map Seg.enc)=gs.map Seg.enc:=List.take_of_length_le (by omega)
      have q3:=sweep1_spec d hd hk (by omega) m gs.length (gs.map Seg.enc) rows (useN m) hr
      have ks:=sweep_ok hd (useN m);have q4:=mend_spec _ ks hk hu m rows gs (by omega) (by omega)
      have km:=mend_ok ks (gs.getLastD ⟨0,0,0⟩);unfold openM;have f2:∀ B0 B1:Box,callIso call 25 [.one (.p 2 0),vs (readF d.files [109]).1] [B0,B1,.cells (opL0 d)]=some (vb true,[B0,B1,.cells (opL d m (.sl 3 3 0 gs.length) (.m 4)),.arr 3 (gs.map Seg.enc) 0,.mp rows]):=fun B0 B1=>iso_at (ids:=[2]) rfl rfl rfl q2 rfl
      have f3:∀ B0 B1:Box,callIso call 23 [.one (.p 2 0)] [B0,B1,.cells (opL d m (.sl 3 3 0 gs.length) (.m 4)),.arr 3 (gs.map Seg.enc) 0,.mp rows]=some (vi (sweepT (useN m) d).2,[B0,B1,.cells (opL (sweepT (useN m) d).1 m (.sl 3 3 0 gs.length) (.m 4)),.arr 3 (gs.map Seg.enc) 0,.mp rows]):=fun B0 B1=>iso_at (ids:=[2,3,4]) rfl rfl rfl q3 rfl
      have f4:∀ B0 B1:Box,callIso call 26 [.one (.p 2 0)] [B0,B1,.cells (opL (sweepT (useN m) d).1 m (.sl 3 3 0 gs.length) (.m 4)),.arr 3 (gs.map Seg.enc) 0,.mp rows]=some (vi (mendT (sweepT (useN m) d).1 (gs.getLastD ⟨0,0,0⟩)).2,[B0,B1,.cells (opL (mendT (sweepT (useN m) d).1 (gs.getLastD ⟨0,0,0⟩)).1 m (.sl 3 3 0 gs.length) (.m 4)),.arr 3 (gs.map Seg.enc) 0,.mp rows]):=fun B0 B1=>iso_at (ids:=[2,3,4]) rfl rfl rfl q4 rfl
      clear q2 q3 q4 hr hgb hlast hsg hmi;generalize readF d.files [109]=rf at *;generalize sweepT (useN m) d=w at *;obtain⟨w1,we⟩:=w;generalize mendT w1 (gs.getLastD ⟨0,0,0⟩)=y at *;obtain⟨y1,ye⟩:=y;simp only at f2 f3 f4 hg1 hg2 km ⊢;generalize gs.getLastD ⟨0,0,0⟩=g at *;generalize hG:gs.map Seg.enc=G at *;obtain⟨gb,gn,gz⟩:=g;simp only[Seg.enc] at g1 hg1 hg2;obtain⟨gl,hgl2⟩:∃ gl,gl=gs.length:=⟨_,rfl⟩;rw[<- hgl2] at f2 f3 f4 hgm hn1 hn2 g1 htk hgl;by_cases c2:we=0
      ·subst c2;rw[if_neg (by simp)]
       by_cases c3:ye=0
       ·subst c3;rw[if_neg (by simp)]
        simp only[stoV,hcell,hdl,opL,opL0,hG] at q1 f2 f3 f4 ⊢;rw[c0'] at q1 f2 f3 ⊢;(simp(disch:=first|decide|omega|(intros;exact Eq.trans rfl rfl)|simp only[puri]) only[wkf,a10,q1,c1,f2,f3,f4,hgm,hn1,hn2,g1,htk,go_sem,seval,dis,vdr,A.kind,A.xs,optX,A.isN])
        try simp[trim]
       ·rw[if_pos c3];simp only[stoV,hcell,hds,hdl,opL,opL0] at q1 f2 f3 f4 ⊢;rw[c0'] at q1 f2 f3 ⊢;(simp(disch:=first|decide|omega|(intros;exact Eq.trans rfl rfl)|simp only[puri]) only[wkf,a10,q1,c1,f2,f3,f4,eq_false c3,go_sem,seval,dis,vdr,A.kind,A.xs,optX,A.isN])
        try simp[trim]
      ·rw[if_pos c2];simp only[stoV,hcell,hds,hdl,opL,opL0] at q1 f2 f3 f4 ⊢;rw[c0'] at q1 f2 f3 ⊢;(simp(disch:=first|decide|omega|(intros;exact Eq.trans rfl rfl)|simp only[puri]) only[wkf,a10,q1,c1,f2,f3,eq_false c2,go_sem,seval,dis,vdr,A.kind,A.xs,optX,A.isN])
       try simp[trim]
  ·rw[if_pos c1];have q3:=sweep0_spec d hd hk (by omega)
   have ks:=sweep_ok hd [];unfold freshT;generalize readF d.files [109]=rf at *;generalize sweepT [] d=w at *;have q4:=new_spec w.1 ks (by omega) (by omega)
   have f3:∀ B0 B1:Box,callIso call 23 [.one (.p 2 0)] [B0,B1,.cells (opL0 d)]=some (vi w.2,[B0,B1,.cells (opL0 w.1)]):=fun B0 B1=>iso_at (ids:=[2]) rfl rfl rfl q3 rfl
   clear q3;obtain⟨w1,we⟩:=w;by_cases c2:we=0
   ·subst c2;rw[if_neg (by simp)]
    simp only at q4 ⊢;generalize createT w1=y at *;obtain⟨y1,ye⟩:=y;simp only[stoV,hcell,hdl,opL0] at q1 q4 f3 ⊢;rw[c0'] at q1 f3 ⊢;(simp(disch:=first|decide|omega|(intros;exact Eq.trans rfl rfl)|simp only[puri]) only[wkf,a10,q1,c1,f3,q4,go_sem,seval,dis])
    try simp[trim]
   ·rw[if_pos c2];simp only[stoV,hcell,hds,hdl,opL0] at q1 f3 ⊢;rw[c0'] at q1 f3 ⊢;(simp(disch:=first|decide|omega|(intros;exact Eq.trans rfl rfl)|simp only[puri]) only[wkf,a10,q1,c1,f3,eq_false c2,go_sem,seval,dis])
    try simp[trim]
def inB (l:List Fil):Prop:=∀ x∈l,0<=x.sure∧x.sure<=((x.data.length:Nat):Int)
theorem chg_in {d:Dsk} (h:inB d.files) {r:List Fil × Int} (hr:r.2=0->inB r.1):inB (chgF d r).1.files:=by
 unfold chgF;split
 ·exact h
 ·split
  ·exact h
  ·rename_i h0;have h0:r.2=0:=by simpa using h0
   split
   ·split
    ·exact h
    ·exact hr h0
   ·exact hr h0
theorem ins_in {l:List Fil} (h:inB l) (k:Nat) {f:Fil} (hf:0<=f.sure∧f.sure<=((f.data.length:Nat):Int)):inB (insF l k f):=by
 intro x hx;unfold insF at hx;rcases List.mem_append.1 hx with hx|hx
 ·exact h x (List.mem_of_mem_take hx)
 ·rcases List.mem_cons.1 hx with rfl|hx
  ·exact hf
  ·exact h x (List.mem_of_mem_drop hx)
theorem set_in {l:List Fil} (h:inB l) (k:Nat) {f:Fil} (hf:0<=f.sure∧f.sure<=((f.data.length:Nat):Int)):inB (l.set k f):=by
 intro x hx;rcases List.mem_or_eq_of_mem_set hx with hx|rfl
 ·exact h x hx
 ·exact hf
theorem upd_in {l:List Fil} (h:inB l) (k:Nat) {g:Fil->Fil} (hg:∀ f:Fil,(0<=f.sure∧f.sure<=((f.data.length:Nat):Int))->(0<=(g f).sure∧(g f).sure<=(((g f).data.length:Nat):Int))):inB (updF l k g):=by
 unfold updF;split
 ·rename_i f hf;exact set_in h k (hg f (h f (List.mem_of_getElem? hf)))
 ·exact h
theorem dlt_in {l:List Fil} (h:inB l) (k:Nat):inB (delF l k):=by
 intro x hx;unfold delF at hx;rcases List.mem_append.1 hx with hx|hx
 ·exact h x (List.mem_of_mem_take hx)
 ·exact h x (List.mem_of_mem_drop hx)
theorem crt_in {d:Dsk} (h:inB d.files) (n:Txt):inB (chgF d (crtR d.files n)).1.files:=chg_in h fun h0=>by
 unfold crtR at h0 ⊢;split at h0
 ·split at h0
  ·cases h0
  ·rename_i h1 h2;rw[if_pos h1,if_neg h2];exact ins_in h _ (by simp)
 ·cases h0
theorem app_in {d:Dsk} (h:inB d.files) (n x:Txt):inB (chgF d (appR d.files d.cap n x)).1.files:=chg_in h fun h0=>by
 unfold appR at h0 ⊢;split at h0
 ·split at h0
  ·cases h0
  ·rename_i h1 h2;rw[if_pos h1,if_neg h2];exact upd_in h _ fun f hf=>⟨hf.1,by show f.sure<=(((f.data++x).length:Nat):Int);rw[List.length_append];omega⟩
 ·cases h0
theorem syn_in {d:Dsk} (h:inB d.files) (n:Txt):inB (chgF d (synR d.files n)).1.files:=chg_in h fun h0=>by
 unfold synR at h0 ⊢;split at h0
 ·rename_i h1;rw[if_pos h1];exact upd_in h _ fun f hf=>⟨by show(0:Int)<=((f.data.length:Nat):Int);omega,Int.le_refl _⟩
 ·cases h0
theorem del_in {d:Dsk} (h:inB d.files) (n:Txt):inB (chgF d (delR d.files n)).1.files:=chg_in h fun h0=>by
 unfold delR at h0 ⊢;split at h0
 ·rename_i h1;rw[if_pos h1];exact dlt_in h _
 ·cases h0
theorem ren_in {d:Dsk} (h:inB d.files) (n t:Txt):inB (chgF d (renR d.files n t)).1.files:=chg_in h fun h0=>by
 unfold renR at h0 ⊢;split at h0
 ·split at h0
  ·rename_i h1 h2;rw[if_pos h1,if_pos h2];have hf:0<=(nameAt d.files (posF d.files n) t).sure∧(nameAt d.files (posF d.files n) t).sure<=(((nameAt d.files (posF d.files n) t).data.length:Nat):Int):=by
    unfold nameAt;split
    ·rename_i f hf;exact h f (List.mem_of_getElem? hf)
    ·simp
   simp only[putAt];split
   ·exact set_in (dlt_in h _) _ hf
   ·exact ins_in (dlt_in h _) _ hf
  ·cases h0
 ·cases h0
theorem stp_in {s:Dsk × Int} {f:Dsk->Dsk × Int} (h:inB s.1.files) (hf:inB (f s.1).1.files):inB (stp s f).1.files:=by
 unfold stp;split
 ·exact hf
 ·exact h
theorem crtS_in {s:Dsk × Int} (h:inB s.1.files) (n:Txt):inB (crtS n s).1.files:=stp_in h (crt_in h n)
theorem delS_in {s:Dsk × Int} (h:inB s.1.files) (n:Txt):inB (delS n s).1.files:=stp_in h (del_in h n)
theorem synS_in {s:Dsk × Int} (h:inB s.1.files) (n:Txt):inB (synS n s).1.files:=stp_in h (syn_in h n)
theorem appS_in {s:Dsk × Int} (h:inB s.1.files) (n x:Txt):inB (appS n x s).1.files:=stp_in h (app_in h n x)
theorem renS_in {s:Dsk × Int} (h:inB s.1.files) (n t:Txt):inB (renS n t s).1.files:=stp_in h (ren_in h n t)
theorem unlS_in {s:Dsk × Int} (h:inB s.1.files) (n:Txt):inB (unlS n s).1.files:=by
 unfold unlS;split
 ·exact h
 ·split
  ·exact delS_in (s:=(s.1,0)) h n
  ·exact delS_in (s:=(s.1,0)) h n
theorem swap_in {s:Dsk × Int} (h:inB s.1.files) (m:Man):inB (swapS m s).1.files:=by
 unfold swapS;simp only[];have h1:inB (if s.2=0 then(s.1,(manPut m).2) else s).1.files:=by split <;> exact h
 generalize (if s.2=0 then(s.1,(manPut m).2) else s)=s1 at *
 have h2:inB (if(readF s1.1.files [110]).2=0 then delS [110] s1 else s1).1.files:=by
  split
  ·exact delS_in h1 _
  ·exact h1
 generalize (if(readF s1.1.files [110]).2=0 then delS [110] s1 else s1)=s2 at *
 have h3:=crtS_in h2 [110];split
 ·exact h3
 ·exact renS_in (synS_in (unlS_in (appS_in h3 _ _) _) _) _ _
theorem sync_in {s:Sto} (h:inB s.disk.files):inB (syncT s).1.disk.files:=syn_in h _
theorem roll_in {s:Sto} (h:inB s.disk.files):inB (rollT s).1.disk.files:=by
 unfold rollT;split
 ·exact h
 ·have h2:=sync_in h;split
  ·exact h2
  ·generalize (syncT s).1=t at *;have h3:inB (rollD t).1.files:=by
    unfold rollD;have h4:=crtS_in (s:=(t.disk,0)) h2 (fileN t.next);simp only[];split
    ·exact unlS_in (swap_in h4 _) _
    ·exact h4
   split
   ·exact h3
   ·exact h3
theorem put_in {s:Sto} (h:inB s.disk.files) (x:Txt):inB (putT s x).1.disk.files:=by
 have h2:=app_in h (fileN s.last.base) x;unfold putT;simp only[];split
 ·exact h2
 ·exact h2
theorem appT_in {s:Sto} (h:inB s.disk.files) (seg:Int) (r:Rec):inB (appT s seg r).1.disk.files:=by
 unfold appT;split
 ·exact h
 ·split
  ·exact h
  ·split
   ·split
    ·exact roll_in h
    ·exact put_in (roll_in h) _
   ·exact put_in h _
theorem dels_in:∀ (l:List Seg) (s:Dsk × Int),inB s.1.files->inB (delsF l s).1.files
 | [],s,h=>h
 | n::l,s,h=>dels_in l _ (delS_in h _)
theorem trim_in {s:Sto} (h:inB s.disk.files) (a b:Int):inB (trimT s a b).1.disk.files:=by
 unfold trimT;split
 ·exact h
 ·generalize pickF s.segs a b=k;unfold trimK;have h2:inB (layT s.disk (snapN (baseF s.segs k)) (bytesF (stateT s (baseF s.segs k))) (trimX s k).man).1.files:=by
   unfold layT;simp only[];have h4:=crtS_in (s:=(s.disk,0)) h (snapN (baseF s.segs k));generalize crtS (snapN (baseF s.segs k)) (s.disk,0)=q at *;have h5:inB (if q.2=0 then unlS (snapN (baseF s.segs k)) (appS (snapN (baseF s.segs k)) (bytesF (stateT s (baseF s.segs k))) q) else q).1.files:=by
    split
    ·exact unlS_in (appS_in h4 _ _) _
    ·exact h4
   generalize (if q.2=0 then unlS (snapN (baseF s.segs k)) (appS (snapN (baseF s.segs k)) (bytesF (stateT s (baseF s.segs k))) q) else q)=q2 at *
   have h6:=synS_in h5 (snapN (baseF s.segs k));split
   ·exact unlS_in (swap_in h6 _) _
   ·exact h6
  generalize layT s.disk (snapN (baseF s.segs k)) (bytesF (stateT s (baseF s.segs k))) (trimX s k).man=e at *;simp only[];split
  ·exact h2
  ·show inB (oldT s k e).1.files;unfold oldT;have h7:=dels_in (s.segs.take k) e h2;simp only[];split
   ·exact delS_in h7 _
   ·exact h7
theorem create_in {d:Dsk} (h:inB d.files):inB (createT d).1.disk.files:=by
 unfold createT;simp only[];have h1:=crtS_in (s:=(d,0)) h (fileN 0);generalize crtS (fileN 0) (d,0)=q at *;have h2:inB (if q.2=0 then swapS ⟨1,[0],0,0⟩ q else q).1.files:=by
  split
  ·exact swap_in h1 _
  ·exact h1
 generalize (if q.2=0 then swapS ⟨1,[0],0,0⟩ q else q)=q2 at *
 split
 ·exact h2
 ·exact h2
theorem act_in {s:Sto} (h:inB s.disk.files) (seg i:Int) (a:Ac):inB (actT seg i s a).disk.files:=by
 unfold actT;split
 ·exact sync_in h
 ·split
  ·exact trim_in h _ _
  ·split
   ·exact h
   ·split
    ·exact h
    ·exact appT_in h _ _
theorem runA_in (seg:Int):∀ (l:List Ac) (i:Int) (s:Sto),inB s.disk.files->inB (runA seg i l s).1.disk.files
 | [],i,s,h=>h
 | a::l,i,s,h=>by
  simp only[runA];split
  ·exact h
  ·exact runA_in seg l (i+1) _ (act_in h seg i a)
theorem play_in (seg:Int) (l:List Ac):inB (playT seg l).1.disk.files:=by
 have h0:inB (createT d0).1.disk.files:=create_in (d:=d0) (fun x hx=>by cases hx)
 unfold playT;split
 ·exact h0
 ·exact runA_in seg l 0 _ h0
def crN (f:Fil) (k:Option Int):Int:=match k with|some a=>max 0 (min a ((f.data.length:Nat)-f.sure))|none=>0
def crF (f:Fil) (k:Option Int):Fil:=⟨f.name,f.data.take (f.sure+crN f k).toNat,f.sure+crN f k⟩
def crL (l:List Fil) (keep:List Int):List Fil:=l.mapIdx fun i f=>crF f keep[i]?
def crashT (d:Dsk) (keep:List Int):Dsk:=⟨crL d.files keep,d.cap,false,0,false⟩
theorem crN_in {f:Fil} (h:0<=f.sure∧f.sure<=((f.data.length:Nat):Int)) (k:Option Int):0<=crN f k∧f.sure+crN f k<=((f.data.length:Nat):Int):=by
 unfold crN;cases k with
 | none=>simp only[];omega
 | some a=>simp only[];omega
theorem crL_len (l:List Fil) (keep:List Int):(crL l keep).length=l.length:=by simp[crL]
theorem crL_at (l:List Fil) (keep:List Int) (i:Nat) (h:i<l.length):(crL l keep).take (i+1)=(crL l keep).take i++[crF l[i] keep[i]?]:=by
 rw[List.take_succ_eq_append_getElem (by rw[crL_len];exact h)]
 simp[crL]
set_option maxRecDepth 8000 in
set_option maxHeartbeats 4000000 in
theorem rcrash_spec (d:Dsk) (hl:d.files.length<=1000000) (hu:usedF d.files<=1000000000000) (hin:inB d.files) (keep:List Int) (hk:keep.length<=1000000) (hki:∀ a∈keep,-9223372036854775808<=a∧a<9223372036854775808):call 19 [.agg d.l,vl (keep.map eI)] []=some (.agg (crashT d keep).l,[]):=by
 obtain⟨Z,hZ⟩:∃ Z,Z=(crashT d keep).l:=⟨_,rfl⟩;rw[<- hZ];unfold crashT at hZ;obtain⟨fl,cp,ar,lf,dn⟩:=d;simp only[Dsk.l] at hl hu hin hZ ⊢;apply enterS s19 rfl;(simp(disch:=first|decide|omega|(intros;exact Eq.trans rfl rfl)|simp only[puri]) only[wkf,a19,go_sem,seval,dis])
 refine loop_boxM (m:=0) (σ:=Nat) (fun i=>fl.length-i) (fun i=>i<=fl.length) (fun i=>[vl (keep.map eI),V.one (.p 0 0),V.one (.p 1 0),V.one (.sl 2 3 0 ((crL fl keep).take i).length),vi i])
  (fun i=>[.cells [.d (.l (fl.map Fil.enc)),.d (.i .i64 cp),.d (.b ar),.d (.i .i64 lf),.d (.b dn)],.cells [.ns,.d (.i .i64 0),.d (.b false),.d (.i .i64 0),.d (.b false)],.arr 3 (((crL fl keep).take i).map Fil.enc) 0]) (fun _=>(V.agg Z,[])) ?_ 0 (Nat.zero_le _) _ _ hdM
 intro i h1 R hR;have hcl:=crL_len fl keep;by_cases hi:i<fl.length
 ·have hc:(i:Int)<(fl.length:Int):=by omega
  have g1:(fl.map Fil.enc)[i]?=some fl[i].enc:=by rw[List.getElem?_map,List.getElem?_eq_getElem hi];rfl
  have hR':=hR (i+1) (by omega) (by omega)
  rw[crL_at fl keep i hi] at hR';have hlen:(((crL fl keep).take i).map Fil.enc).length=((crL fl keep).take i).length:=by simp
  have hl2:((crL fl keep).take i).length<=1000000:=by simp;omega
  have hx:=hin _ (List.getElem_mem hi);have hd:=Nat.le_trans (data_le fl i hi) hu;have hcn:=crN_in hx keep[i]?;have e2:((crL fl keep).take i++[crF fl[i] keep[i]?]).map Fil.enc=((crL fl keep).take i).map Fil.enc++[[.s fl[i].name,.s (fl[i].data.take (fl[i].sure+crN fl[i] keep[i]?).toNat),.i .i64 (fl[i].sure+crN fl[i] keep[i]?)]]:=by rw[List.map_append];rfl
  have e3:((crL fl keep).take i++[crF fl[i] keep[i]?]).length=((crL fl keep).take i).length+1:=by rw[List.length_append];rfl
  rw[e2,e3] at hR';have hkl:(keep.map eI).length=keep.length:=by simp
  generalize ((crL fl keep).take i).length=n at *;generalize ((crL fl keep).take i).map Fil.enc=Q at *;clear e2 e3;generalize fl[i]=w at *;obtain⟨a,b,c⟩:=w;simp only[Fil.enc] at g1 hx hd hcn hR';by_cases ck:i<keep.length
  ·have hck:(i:Int)<(keep.length:Int):=by omega
   have g2:(keep.map eI)[i]?=some [.i .i64 keep[i]]:=by rw[List.getElem?_map,List.getElem?_eq_getElem ck];rfl
   rw[List.getElem?_eq_getElem ck] at hR' hcn;have hkk:=hki _ (List.getElem_mem ck);obtain⟨z,hz⟩:∃ z,z=crN ⟨a,b,c⟩ (some keep[i]):=⟨_,rfl⟩;rw[<- hz] at hR' hcn;have hz2:z=max 0 (min keep[i] ((b.length:Nat)-c)):=hz;clear hz;generalize keep[i]=y at *;have ht:(b.take (c+z).toNat).length=(c+z).toNat:=by simp;omega
   have hcz:(((c+z).toNat:Nat):Int)=c+z:=by omega
   by_cases m1:((b.length:Nat):Int)-c<y
   ·by_cases m2:(0:Int)<((b.length:Nat):Int)-c
    ·have m3:z=((b.length:Nat):Int)-c:=by omega
     rw[m3] at hR' ht hcz;(simp(disch:=first|decide|omega|(intros;exact Eq.trans rfl rfl)|simp only[puri]) only[wkf,a19_0,decide_eq_true hc,List.length_map,g1,hkl,decide_eq_true hck,g2,hlen,if_pos m1,if_pos m2,ht,hcz,go_sem,seval,dis])
     exact hR' _ _ hdM
    ·have m3:z=0:=by omega
     rw[m3] at hR' ht hcz;(simp(disch:=first|decide|omega|(intros;exact Eq.trans rfl rfl)|simp only[puri]) only[wkf,a19_0,decide_eq_true hc,List.length_map,g1,hkl,decide_eq_true hck,g2,hlen,if_pos m1,if_neg m2,ht,hcz,go_sem,seval,dis])
     exact hR' _ _ hdM
   ·by_cases m2:(0:Int)<y
    ·have m3:z=y:=by omega
     rw[m3] at hR' ht hcz;(simp(disch:=first|decide|omega|(intros;exact Eq.trans rfl rfl)|simp only[puri]) only[wkf,a19_0,decide_eq_true hc,List.length_map,g1,hkl,decide_eq_true hck,g2,hlen,if_neg m1,if_pos m2,ht,hcz,go_sem,seval,dis])
     exact hR' _ _ hdM
    ·have m3:z=0:=by omega
     rw[m3] at hR' ht hcz;(simp(disch:=first|decide|omega|(intros;exact Eq.trans rfl rfl)|simp only[puri]) only[wkf,a19_0,decide_eq_true hc,List.length_map,g1,hkl,decide_eq_true hck,g2,hlen,if_neg m1,if_neg m2,ht,hcz,go_sem,seval,dis])
     exact hR' _ _ hdM
  ·have hck:¬ (i:Int)<(keep.length:Int):=by omega
   rw[List.getElem?_eq_none (by omega)] at hR' hcn
   simp only[crN,Int.add_zero] at hR' hcn;have ht:(b.take c.toNat).length=c.toNat:=by simp;omega
   have hcz:((c.toNat:Nat):Int)=c:=by omega
   (simp(disch:=first|decide|omega|(intros;exact Eq.trans rfl rfl)|simp only[puri]) only[wkf,a19_0,decide_eq_true hc,List.length_map,g1,hkl,decide_eq_false hck,hlen,ht,hcz,Int.add_zero,go_sem,seval,dis])
   exact hR' _ _ hdM
 ·have hc:¬ (i:Int)<(fl.length:Int):=by omega
  have ht:(crL fl keep).take i=crL fl keep:=List.take_of_length_le (by omega)
  rw[ht];have htk:List.take (crL fl keep).length ((crL fl keep).map Fil.enc)=(crL fl keep).map Fil.enc:=List.take_of_length_le (by simp)
  have hln:((crL fl keep).map Fil.enc).length=(crL fl keep).length:=by simp
  rw[hZ];(simp(disch:=first|decide|omega|(intros;exact Eq.trans rfl rfl)|simp only[puri]) only[wkf,a19_0,a19,decide_eq_false hc,List.length_map,htk,hln,go_sem,seval,dis])
  try simp[trim]
theorem crL_cons (a:Fil) (l:List Fil) (keep:List Int):crL (a::l) keep=crF a keep[0]?::crL l keep.tail:=by
 unfold crL;rw[List.mapIdx_cons];congr 1
 congr 1
 funext i f
 cases keep with
 | nil=>simp
 | cons b r=>simp
theorem crL_fm:∀ (l:List Fil) (keep:List Int),inB l->∀ n,(fm l n=none∧fm (crL l keep) n=none)∨(∃ (x:Txt) (q:Int) (c:Nat),fm l n=some (x,q)∧fm (crL l keep) n=some (x.take c,((c:Nat):Int))∧q<=c∧c<=x.length)
 | [],keep,_,n=>.inl ⟨rfl,rfl⟩
 | a::l,keep,h,n=>by
  rw[crL_cons];by_cases e:a.name=n
  ·have h1:=h a (by simp)
   have h2:=crN_in h1 keep[0]?;refine .inr ⟨a.data,a.sure,(a.sure+crN a keep[0]?).toNat,by simp[fm,e],?_,by omega,by omega⟩
   have:(((a.sure+crN a keep[0]?).toNat:Nat):Int)=a.sure+crN a keep[0]?:=by omega
   rw[this];simp[fm,crF,e]
  ·have e1:fm (a::l) n=fm l n:=by simp[fm,e]
   have e2:fm (crF a keep[0]?::crL l keep.tail) n=fm (crL l keep.tail) n:=by simp[fm,crF,e]
   rw[e1,e2];exact crL_fm l keep.tail (fun x hx=>h x (by simp[hx])) n
theorem crL_names (l:List Fil) (keep:List Int):(crL l keep).map Fil.name=l.map Fil.name:=by
 apply List.ext_getElem
 ·simp[crL]
 ·intro i h1 h2;simp[crL,crF]
theorem crL_used:∀ (l:List Fil) (keep:List Int),usedF (crL l keep)<=usedF l
 | [],keep=>Nat.le_refl _
 | a::l,keep=>by
  rw[crL_cons];have h1:=crL_used l keep.tail;have e1:∀ (b:Fil) (m:List Fil),usedF (b::m)=b.data.length+usedF m:=fun b m=>by rw[<- used_one,<- used_app];rfl
  rw[e1,e1];have:(crF a keep[0]?).data.length<=a.data.length:=by simp[crF];omega
  omega
theorem crash_okN {k u:Nat} {d:Dsk} (h:okN k u d) (keep:List Int):okN k u (crashT d keep) :=
 ⟨by show(crL d.files keep).length<=k;rw[crL_len];exact h.len,srt_names (crL_names _ _) h.srt,⟨Int.le_refl _,by show(0:Int)<_;decide⟩,h.cap,Nat.le_trans (crL_used _ _) h.used⟩
theorem rowS_two (a b:List Rec):rowS (a++b)=rowS a++rowS b:=List.flatMap_append
theorem endR_mono (l:List Rec) {a b:Nat} (h:a<=b):endR l a<=endR l b:=by
 unfold endR;have:l.take b=l.take a++(l.take b).drop a:=by
  conv=>lhs;rw[<- List.take_append_drop a (l.take b)]
  rw[List.take_take,Nat.min_eq_left h]
 rw[this,rowS_two,List.length_append];omega
theorem whole_at (l:List Rec) (c:Nat):∀ m,m<=l.length->∃ w,w<=l.length∧endR l w<=c∧(w<l.length->c<endR l (w+1))∨(endR l m<=c∧w=m∧m<=l.length)
 | 0,_=>⟨0,.inr ⟨by simp[endR,rowS],rfl,Nat.zero_le _⟩⟩
 | m+1,h=>by
  obtain⟨w,h1|⟨h1,rfl,h2⟩⟩:=whole_at l c m (by omega)
  ·exact⟨w,.inl h1⟩
  ·by_cases h3:endR l (w+1)<=c
   ·exact⟨w+1,.inr ⟨h3,rfl,h⟩⟩
   ·exact⟨w,.inl ⟨by omega,h1,fun _=>by omega⟩⟩
theorem whole_ex (l:List Rec) (c:Nat):∃ w,w<=l.length∧endR l w<=c∧(w<l.length->c<endR l (w+1)):=by
 obtain⟨w,h|⟨h1,rfl,h2⟩⟩:=whole_at l c l.length (Nat.le_refl _)
 ·exact⟨w,h⟩
 ·exact⟨l.length,Nat.le_refl _,h1,fun h=>by omega⟩
theorem scan_crash (l:List Rec) (b:Int) (hb:offN b=true) (hw:∀ r∈l,whyF r=0) (hn:numB b l) (c m:Nat) (hc:c<=(rowS l).length) (hm:endR l m<=c) (hml:m<=l.length) :
  ∃ w,m<=w∧w<=l.length∧endR l w<=c∧(scanS ((rowS l).take c) b).1.length=w∧(scanS ((rowS l).take c) b).2.1=endR l w:=by
 obtain⟨w,h1,h2,h3⟩:=whole_ex l c;have hcut:=scan_cut l b hb hw hn w c h1 h2 (fun h=>by rw[h];unfold endR;rw[List.take_length];exact hc) h3
 refine⟨w,?_,h1,h2,?_,by rw[hcut.2]⟩
 ·rcases Nat.lt_or_ge w m with h|h
  ·have:=endR_mono l (show w+1<=m by omega)
   have:=h3 (by omega)
   omega
  ·exact h
 ·have:=congrArg List.length hcut.1;simp at this;omega
theorem segT_full {d:Dsk} (hs:srt d.files) {p:SR} (hb:offN p.1.base=true) (hf:∃ q,fm d.files (fileN p.1.base)=some (rowS p.2,q)) (hw:∀ r∈p.2,whyF r=0) (hn:numB p.1.base p.2) (h1:p.1.n=p.2.length) (h2:p.1.size=(rowS p.2).length) :
  segT d p.1.base=(p.1,0)∧(readF d.files (fileN p.1.base)).2=0:=by
 obtain⟨q,hf⟩:=hf;have hr:readF d.files (fileN p.1.base)=(rowS p.2,0):=by rw[fm_read hs,hf]
 have hsc:=scan_row p.2 p.1.base hb hw hn;have hl:(scanS (rowS p.2) p.1.base).1.length=p.2.length:=by
  have:=congrArg List.length hsc.1;simpa using this
 unfold segT;rw[hr];simp only[hl,hsc.2];refine⟨?_,trivial⟩;obtain⟨⟨a,b,c⟩,rs⟩:=p;simp only at h1 h2 ⊢;rw[h1,h2]
theorem segsT_chain {d:Dsk} {g:Int} {z:Seg} (hz:(readF d.files (fileN g)).2=0) (hg:(segT d g).1=z):∀ (M:List SR) (b:Int),chainM b M g->(∀ p∈M,segT d p.1.base=(p.1,0)∧(readF d.files (fileN p.1.base)).2=0)->(∀ p∈M,p.1.n=p.2.length) ->
  segsT d (M.map (fun p=>p.1.base)++[g])=some (M.map (·.1)++[z])
 | [],b,_,_,_=>by
  rw[List.map_nil,List.nil_append,segsT_cons,if_neg (by simp[hz])]
  simp[hg]
 | p::M,b,hc,hp,hn=>by
  have h1:=hp p (by simp)
  have ih:=segsT_chain hz hg M (b+p.2.length) hc.2.2 (fun q hq=>hp q (by simp[hq])) (fun q hq=>hn q (by simp[hq]))
  have hpn:=hn p (by simp)
  have hnx:∃ r,M.map (fun p=>p.1.base)++[g]=(b+p.2.length)::r:=by
   have h2:=hc.2.2;cases M with
   | nil=>exact⟨[],by simp[chainM] at h2 ⊢;omega⟩
   | cons q r=>exact⟨r.map (fun p=>p.1.base)++[g],by simp[chainM] at h2 ⊢;omega⟩
  obtain⟨r,hr⟩:=hnx;rw[List.map_cons,List.cons_append,segsT_cons,if_neg (by simp[h1.2]),hr]
  simp only[];rw[if_neg (by rw[h1.1,hc.1];simp[hpn]),<- hr,ih,h1.1]
  try rfl
def exR:Rec:=⟨0,0,[97,98]⟩
def exO:Sto:=(appT (openT d0).1 100 exR).1
theorem ex14_0:openT d0=createT d0:=by
 have h1:sweepT [] d0=(d0,0):=rfl;unfold openT freshT;rw[if_neg (by decide),if_pos (by decide),h1,if_neg (by decide)]
theorem ex14_a:(openT d0).2=0∧(appT (openT d0).1 100 exR).2=0:=by decide +kernel
theorem ex14_s:(openT d0).1.segs.length=1:=by decide +kernel
theorem ex14_x:(openT (crashT exO.disk [9,5])).2=0∧(openT (crashT exO.disk [9,5])).1.next=0:=by decide +kernel
theorem ex14_y:(openT (crashT exO.disk [9,99])).2=0∧(openT (crashT exO.disk [9,99])).1.next=1:=by decide +kernel
set_option maxRecDepth 20000 in
set_option maxHeartbeats 4000000 in
theorem awake14_spec:call 9 [] []=some (vb true,[]):=by
 have q0:=popen_spec d0 d0_ok (by decide) (by decide)
 have hp:=new_PI;rw[<- ex14_0] at hp;have q1:=rappend_sto (openT d0).1 hp.ok (by decide) (by decide) 100 exR (by refine⟨⟨?_,?_⟩,⟨?_,?_⟩,?_⟩ <;> decide)
 have o1:=appT_ok hp.ok 100 exR;have hin:inB exO.disk.files:=appT_in (s:=(openT d0).1) (by rw[ex14_0];exact create_in (d:=d0) (fun x hx=>by cases hx)) 100 exR
 have q2:=rcrash_spec exO.disk (Nat.le_trans o1.dsk.len (by decide)) (Nat.le_trans o1.dsk.used (by decide)) hin [9,5] (by decide) (by decide)
 have q3:=rcrash_spec exO.disk (Nat.le_trans o1.dsk.len (by decide)) (Nat.le_trans o1.dsk.used (by decide)) hin [9,99] (by decide) (by decide)
 have q4:=popen_spec (crashT exO.disk [9,5]) (crash_okN o1.dsk [9,5]) (by decide) (by decide)
 have q5:=popen_spec (crashT exO.disk [9,99]) (crash_okN o1.dsk [9,99]) (by decide) (by decide)
 obtain⟨a1,a3⟩:=ex14_a;have a4:=ex14_s;obtain⟨x1,x2⟩:=ex14_x;obtain⟨y1,y2⟩:=ex14_y;have hcell:∀ s:Sto,s.l=[.d (.l (s.disk.files.map Fil.enc)),.d (.i .i64 s.disk.cap),.d (.b s.disk.armed),.d (.i .i64 s.disk.left),.d (.b s.disk.down),.d (.i .i64 s.ver),.d (.l (s.segs.map Seg.enc)),.d (.i .i64 s.next),.d (.i .i64 s.sure),.d (.i .i64 s.size),.d (.i .u32 s.sum)]:=fun _=>rfl
 have hd0:d0.l=[.d (.l []),.d (.i .i64 0),.d (.b false),.d (.i .i64 0),.d (.b false)]:=rfl;have hr:exR.enc.map L.d=[.d (.i .i64 0),.d (.i .i64 0),.d (.s [97,98])]:=rfl;rw[hr] at q1;have eO:exO=(appT (openT d0).1 100 exR).1:=rfl;rw[eO] at q2 q3 q4 q5 x1 x2 y1 y2;generalize openT d0=r0 at *;obtain⟨st0,e0⟩:=r0;simp only at a1 a3 a4 q1 q2 q3 q4 q5 x1 x2 y1 y2;subst a1;generalize appT st0 100 exR=r1 at *;obtain⟨st1,e1⟩:=r1;simp only at a3 q2 q3 q4 q5 x1 x2 y1 y2;subst a3;generalize crashT st1.disk [9,5]=c1 at *;generalize crashT st1.disk [9,99]=c2 at *;generalize openT c1=r2 at *;generalize openT c2=r3 at *;obtain⟨s2,e2⟩:=r2;obtain⟨s3,e3⟩:=r3;simp only at x1 x2 y1 y2;subst x1 y1;have hdl:∀ d:Dsk,d.l=([.d (.l (d.files.map Fil.enc)),.d (.i .i64 d.cap),.d (.b d.armed),.d (.i .i64 d.left),.d (.b d.down)]:List L):=fun _=>rfl
 simp only[stoV,hcell,hd0,hdl,x2,y2,List.map_cons,List.map_nil,eI] at q0 q1 q2 q3 q4 q5;clear hcell hdl hp o1 hin;apply enterS s9 rfl;(simp(disch:=first|decide|omega|(intros;exact Eq.trans rfl rfl)|simp only[puri]) only[wkf,a9,q0,q1,q2,q3,q4,q5,a4,List.length_map,go_sem,seval,dis])
 try simp[trim]
end Go.Proofs.YtghfhomfppbooaaGreat
