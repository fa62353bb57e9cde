import Derived.Test.YthlnpioogbmogaaGreatT08
set_option linter.unusedSimpArgs false
set_option linter.unusedVariables false
namespace Go.Proofs.YthlnpioogbmogaaGreat
open Go.Vi
def segT (d:Dsk) (b:Int):Seg × Int:=(⟨b,(scanS (readF d.files (fileN b)).1 b).1.length,(scanS (readF d.files (fileN b)).1 b).2.1⟩,(scanS (readF d.files (fileN b)).1 b).2.2)
def segsT (d:Dsk):List Int->Option (List Seg)
 | []=>some []
 | b::r=>if(readF d.files (fileN b)).2≠0 then none else match r with
  | []=>some [(segT d b).1]
  | c::_=>if(segT d b).2≠0∨b+(segT d b).1.n≠c then none else(segsT d r).map ((segT d b).1 :: ·)
def wholeT (gs:List Seg):Int:=(gs.getLastD ⟨0,0,0⟩).size
def segsV:Option (List Seg)->V
 | some gs=>.tup [(false,[.d (.l (gs.map Seg.enc))]),(false,[.d (.i .i64 (wholeT gs))]),(false,[.d (.b true)])]
 | none=>.tup [(false,[.d (.l [])]),(false,[.d (.i .i64 0)]),(false,[.d (.b false)])]
def segsC (d:Dsk) (out:List Seg) (r:List Int):Option (List Seg):=(segsT d r).map (out ++ ·)
theorem segsT_cons (d:Dsk) (b:Int) (r:List Int):segsT d (b::r)=if(readF d.files (fileN b)).2≠0 then none else match r with
  | []=>some [(segT d b).1]
  | c::_=>if(segT d b).2≠0∨b+(segT d b).1.n≠c then none else(segsT d r).map ((segT d b).1 :: ·):=by cases r <;> simp only[segsT]
theorem whole_snoc (l:List Seg) (g:Seg):wholeT (l++[g])=g.size:=by unfold wholeT;rw[List.getLastD_concat]
set_option maxRecDepth 8000 in
set_option maxHeartbeats 4000000 in
theorem rsegs_spec {k u:Nat} (d:Dsk) (hd:okN k u d) (hk:k<=900000) (hu:u<=1000000) (m:Man) (hm:m.segs.length<=64) (hb:∀ b∈m.segs,0<=b∧b<=1099511627776):call 62 [.agg d.l,.agg m.l] []=some (segsV (segsT d m.segs),[]):=by
 have hrd:=fun n=>rread_spec d (Nat.le_trans hd.len (by omega)) hd.srt n
 obtain⟨Z,hZ⟩:∃ Z,Z=segsT d m.segs:=⟨_,rfl⟩;rw[<- hZ];obtain⟨ver,segs,size,sum⟩:=m;simp only at hm hb hZ;have hml:(⟨ver,segs,size,sum⟩:Man).l=[.d (.i .i64 ver),.d (.l (segs.map eI)),.d (.i .i64 size),.d (.i .u32 sum)]:=rfl;have hdl:d.l=[.d (.l (d.files.map Fil.enc)),.d (.i .i64 d.cap),.d (.b d.armed),.d (.i .i64 d.left),.d (.b d.down)]:=rfl;rw[hml,hdl];rw[hdl] at hrd;have hlm:(segs.map eI).length=segs.length:=by simp
 apply enterS s62 rfl;(simp(disch:=first|decide|omega|(intros;exact Eq.trans rfl rfl)|simp only[puri]) only[wkf,a62,go_sem,seval,dis])
 refine loop_boxM (m:=0) (σ:=Nat × List Seg × Int) (fun t=>segs.length-t.1) (fun t=>t.1<=segs.length∧t.2.1.length=t.1∧t.2.2=wholeT t.2.1∧Z=segsC d t.2.1 (segs.drop t.1)) (fun t=>[V.one (.p 0 0),V.one (.p 1 0),V.one (.sl 2 3 0 t.2.1.length),vi t.2.2,vi t.1])
  (fun t=>[.cells [.d (.l (d.files.map Fil.enc)),.d (.i .i64 d.cap),.d (.b d.armed),.d (.i .i64 d.left),.d (.b d.down)],.cells [.d (.i .i64 ver),.d (.l (segs.map eI)),.d (.i .i64 size),.d (.i .u32 sum)],.arr 3 (t.2.1.map Seg.enc) 0])
  (fun _=>(segsV Z,[])) ?_ (0,[],0) ⟨Nat.zero_le _,rfl,rfl,by rw[hZ];simp[segsC]⟩ _ _ hdM
 rintro⟨i,out,wh⟩ ⟨h1,h2,h3,h4⟩ R hR;simp only at h1 h2 h3 h4 ⊢;have hol:(out.map Seg.enc).length=out.length:=by simp
 by_cases c:i<segs.length
 ·have hc:(i:Int)<(segs.length:Int):=by omega
  have g1:(segs.map eI)[i]?=some [.i .i64 segs[i]]:=by rw[List.getElem?_map,List.getElem?_eq_getElem c];rfl
  have hbi:=hb _ (List.getElem_mem c);have q1:=rseg_spec hbi;have q2:=hrd (fileN segs[i]);have q3:=refScan_spec (readF d.files (fileN segs[i])).1 (Nat.le_trans (readF_len _ _) (Nat.le_trans hd.used hu)) segs[i] (by omega)
  have hsl:(scanS (readF d.files (fileN segs[i])).1 segs[i]).1.length<=1000000:=Nat.le_trans (scanS_len _ _) (Nat.le_trans (readF_len _ _) (Nat.le_trans hd.used hu));have hR':=hR (i+1,out++[(segT d segs[i]).1],(segT d segs[i]).1.size) (by simp only[];omega)
  rw[List.drop_eq_getElem_cons c] at h4;unfold segsC at h4;rw[segsT_cons] at h4;have hsn:(out++[(segT d segs[i]).1]).map Seg.enc=out.map Seg.enc++[[.i .i64 segs[i],.i .i64 (((scanS (readF d.files (fileN segs[i])).1 segs[i]).1.length:Nat):Int),.i .i64 (((scanS (readF d.files (fileN segs[i])).1 segs[i]).2.1:Nat):Int)]]:=by
   rw[List.map_append];rfl
  have hsz:(segT d segs[i]).1.size=(((scanS (readF d.files (fileN segs[i])).1 segs[i]).2.1:Nat):Int):=rfl;have hsN:(segT d segs[i]).1.n=(((scanS (readF d.files (fileN segs[i])).1 segs[i]).1.length:Nat):Int):=rfl;have hse:(segT d segs[i]).2=(scanS (readF d.files (fileN segs[i])).1 segs[i]).2.2:=rfl;have hsl2:(out++[(segT d segs[i]).1]).length=out.length+1:=by rw[List.length_append];rfl
  have hwn:=whole_snoc out (segT d segs[i]).1;have hrl:=readF_len d.files (fileN segs[i]);unfold scanV at q3;by_cases c1:(readF d.files (fileN segs[i])).2=0
  ·rw[if_neg (by simp[c1])] at h4
   by_cases c2:i+1<segs.length
   ·have hc2:(i:Int)+1<(segs.length:Int):=by omega
    have g2:(segs.map eI)[i+1]?=some [.i .i64 segs[i+1]]:=by rw[List.getElem?_map,List.getElem?_eq_getElem c2];rfl
    have ei:((i:Int)+1).toNat=i+1:=by omega
    rw[List.drop_eq_getElem_cons c2] at h4;simp only at h4;by_cases c3:(segT d segs[i]).2≠0∨segs[i]+(segT d segs[i]).1.n≠segs[i+1]
    ·rw[if_pos c3] at h4;simp only[Option.map_none] at h4;rw[h4];rw[hse,hsN] at c3;clear hR hR' hsn hsz hsN hse hwn h4;generalize hrf:readF d.files (fileN segs[i])=rf at *;generalize fileN segs[i]=fn at *;generalize segs[i+1]=b2 at *;generalize segs[i]=b at *;generalize hsc:scanS rf.1 b=sc at *;obtain⟨sl,sa,se⟩:=sc;simp only at *;by_cases c4:se=0
     ·have c5:¬ (b+(sl.length:Int)=b2):=by
       rcases c3 with c3|c3
       ·exact absurd c4 c3
       ·exact c3
      subst c4;(simp(disch:=first|decide|omega|(intros;exact Eq.trans rfl rfl)|simp only[puri]) only[wkf,a62_0,decide_eq_true hc,hlm,g1,q1,q2,c1,q3,decide_eq_true hc2,ei,g2,c5,List.length_map,go_sem,seval,dis])
      try simp[trim,segsV]
     ·(simp(disch:=first|decide|omega|(intros;exact Eq.trans rfl rfl)|simp only[puri]) only[wkf,a62_0,decide_eq_true hc,hlm,g1,q1,q2,c1,q3,decide_eq_true hc2,c4,List.length_map,go_sem,seval,dis])
      try simp[trim,segsV]
    ·rw[if_neg c3] at h4;simp only[not_or,Decidable.not_not] at c3;have hK:=hR' ⟨by simp only[];omega,by simp only[];rw[hsl2];omega,by simp only[];rw[hwn],by
      simp only[];rw[h4,List.drop_eq_getElem_cons c2];unfold segsC;rw[Option.map_map];congr 1
      funext x
      simp⟩
     rw[hse,hsN] at c3;simp only[hsn,hsl2,hsz] at hK;clear hR hR' hsn hsz hsN hse hwn h4 hsl2;generalize hrf:readF d.files (fileN segs[i])=rf at *;generalize fileN segs[i]=fn at *;generalize segs[i+1]=b2 at *;generalize segs[i]=b at *;generalize hsc:scanS rf.1 b=sc at *;obtain⟨sl,sa,se⟩:=sc;simp only at *;obtain⟨c4,c5⟩:=c3;subst c4;(simp(disch:=first|decide|omega|(intros;exact Eq.trans rfl rfl)|simp only[puri]) only[wkf,a62_0,decide_eq_true hc,hlm,g1,q1,q2,c1,q3,decide_eq_true hc2,ei,g2,eq_true c5,hol,List.length_map,go_sem,seval,dis])
     exact hK _ _ hdM
   ·have hc2:¬ (i:Int)+1<(segs.length:Int):=by omega
    have hdn:segs.drop (i+1)=[]:=List.drop_eq_nil_of_le (by omega)
    rw[hdn] at h4;simp only[Option.map_some] at h4;have hK:=hR' ⟨by simp only[];omega,by simp only[];rw[hsl2];omega,by simp only[];rw[hwn],by
     simp only[];rw[h4,hdn];simp[segsC,segsT]⟩
    simp only[hsn,hsl2,hsz] at hK;clear hR hR' hsn hsz hsN hse hwn h4 hsl2;generalize hrf:readF d.files (fileN segs[i])=rf at *;generalize fileN segs[i]=fn at *;generalize segs[i]=b at *;generalize hsc:scanS rf.1 b=sc at *;obtain⟨sl,sa,se⟩:=sc;simp only at *;(simp(disch:=first|decide|omega|(intros;exact Eq.trans rfl rfl)|simp only[puri]) only[wkf,a62_0,decide_eq_true hc,hlm,g1,q1,q2,c1,q3,decide_eq_false hc2,hol,List.length_map,go_sem,seval,dis])
    exact hK _ _ hdM
  ·rw[if_pos c1] at h4;simp only[Option.map_none] at h4;rw[h4];clear hR hR' hsn hsz hsN hse hwn h4;generalize hrf:readF d.files (fileN segs[i])=rf at *;(simp(disch:=first|decide|omega|(intros;exact Eq.trans rfl rfl)|simp only[puri]) only[wkf,a62_0,decide_eq_true hc,hlm,g1,q1,q2,c1,List.length_map,go_sem,seval,dis])
   try simp[trim,segsV]
 ·have hc:¬ (i:Int)<(segs.length:Int):=by omega
  rw[List.drop_eq_nil_of_le (by omega)] at h4
  have e:Z=some out:=by rw[h4];simp[segsC,segsT]
  rw[e];have htk:List.take out.length (out.map Seg.enc)=out.map Seg.enc:=List.take_of_length_le (by simp)
  rw[h3];(simp(disch:=first|decide|omega|(intros;exact Eq.trans rfl rfl)|simp only[puri]) only[wkf,a62_0,a62,decide_eq_false hc,hlm,htk,hol,List.length_map,go_sem,seval,dis])
  try simp[trim,segsV]
def deadS (d:Dsk):Sto:=⟨d,0,[],0,0,0,0⟩
def freshT (d:Dsk):Sto × Int:=if(sweepT [] d).2≠0 then(deadS (sweepT [] d).1,(sweepT [] d).2) else createT (sweepT [] d).1
def useS (m:Man):List Txt:=[109]::(if 0<m.segs.headD 0 then[snapN (m.segs.headD 0)] else[])
def useN (m:Man):List Txt:=useS m++m.segs.map fileN
def snapOk (d:Dsk) (m:Man):Bool:=decide (¬ 0<m.segs.headD 0) || (decide ((readF d.files (snapN (m.segs.headD 0))).2=0) && (decide (((readF d.files (snapN (m.segs.headD 0))).1.length:Int)=m.size) && decide (sumT (readF d.files (snapN (m.segs.headD 0))).1=m.sum)))
theorem snapOk_iff {d:Dsk} {m:Man}:snapOk d m=true↔(0<m.segs.headD 0->(readF d.files (snapN (m.segs.headD 0))).2=0∧((readF d.files (snapN (m.segs.headD 0))).1.length:Int)=m.size∧sumT (readF d.files (snapN (m.segs.headD 0))).1=m.sum):=by
 unfold snapOk;generalize m.segs.headD 0=h;by_cases c:0<h
 ·simp only[c,not_true,decide_false,Bool.false_or,Bool.and_eq_true,decide_eq_true_eq,forall_const]
 ·simp[c]
def mendT (d:Dsk) (g:Seg):Dsk × Int :=
 synS (fileN g.base) (if g.size<((readF d.files (fileN g.base)).1.length:Nat) then chgF d (cutR d.files (fileN g.base) g.size) else(d,0))
def openM (d:Dsk) (m:Man) (gs:List Seg):Sto × Int :=
 if(sweepT (useN m) d).2≠0 then(deadS (sweepT (useN m) d).1,(sweepT (useN m) d).2) else
  if(mendT (sweepT (useN m) d).1 (gs.getLastD ⟨0,0,0⟩)).2≠0 then(deadS (mendT (sweepT (useN m) d).1 (gs.getLastD ⟨0,0,0⟩)).1,(mendT (sweepT (useN m) d).1 (gs.getLastD ⟨0,0,0⟩)).2) else
   (⟨(mendT (sweepT (useN m) d).1 (gs.getLastD ⟨0,0,0⟩)).1,m.ver,gs,(gs.getLastD ⟨0,0,0⟩).base+(gs.getLastD ⟨0,0,0⟩).n,(gs.getLastD ⟨0,0,0⟩).base+(gs.getLastD ⟨0,0,0⟩).n,m.size,m.sum⟩,0)
def openR (d:Dsk) (m:Man):Sto × Int:=if snapOk d m=true then(match segsT d m.segs with|some gs=>openM d m gs|none=>(deadS d,3)) else(deadS d,3)
def openT (d:Dsk):Sto × Int :=
 if d.down=true then(deadS d,10) else if(readF d.files [109]).2≠0 then freshT d else match decM (readF d.files [109]).1 with
  | some m=>openR d m
  | none=>(deadS d,3)
theorem goP_okN {k u:Nat}:∀ (l:List Txt) (s:Dsk × Int),okN k u s.1->okN k u (goP l s).1
 | [],s,h=>h
 | n::l,s,h=>goP_okN l _ (del_okN h n)
theorem sweep_ok {k u:Nat} {d:Dsk} (h:okN k u d) (use:List Txt):okN k u (sweepT use d).1:=goP_okN _ _ h
theorem rfresh_spec {k u:Nat} (d:Dsk) (hd:okN k u d) (hk:k<=700000) (hu:u<=700000000000):call 60 [.agg d.l] []=some (stoV (freshT d),[]):=by
 have q1:=rsweep_spec d hd (by omega) (by omega) [] (by decide)
 have k1:=sweep_ok hd [];unfold freshT;generalize sweepT [] d=w at *;have q2:=rnew_spec w.1 k1 (by omega) (by omega)
 have hcell:∀ s:Sto,s.l=[.d (.l (s.disk.files.map Fil.enc)),.d (.i .i64 s.disk.cap),.d (.b s.disk.armed),.d (.i .i64 s.disk.left),.d (.b s.disk.down),.d (.i .i64 s.ver),.d (.l (s.segs.map Seg.enc)),.d (.i .i64 s.next),.d (.i .i64 s.sure),.d (.i .i64 s.size),.d (.i .u32 s.sum)]:=fun _=>rfl
 obtain⟨⟨fl,cp,ar,lf,dn⟩,we⟩:=w;obtain⟨fl0,cp0,ar0,lf0,dn0⟩:=d;simp only[dskV,Dsk.l,stoV,hcell,List.map_nil] at q1 q2 ⊢;apply enterS s60 rfl;by_cases c:we=0
 ·subst c;rw[if_neg (by simp)]
  (simp(disch:=first|decide|omega|(intros;exact Eq.trans rfl rfl)|simp only[puri]) only[wkf,a60,q1,q2,go_sem,seval,dis])
  try simp[trim]
 ·rw[if_pos c];(simp(disch:=first|decide|omega|(intros;exact Eq.trans rfl rfl)|simp only[puri]) only[wkf,a60,q1,c,go_sem,seval,dis])
  try simp[trim,deadS,c]
theorem cut_okN {k u:Nat} {d:Dsk} (h:okN k u d) (g:Seg):okN k u (chgF d (cutR d.files (fileN g.base) g.size)).1:=by
 refine chg_ok h fun h0=>?_
 unfold cutR at h0 ⊢;split at h0
 ·rename_i hh;rw[if_pos hh];split at h0
  ·cases h0
  ·rename_i hc;rw[if_neg hc];obtain⟨hp,he⟩:=has_at hh;refine⟨by rw[upd_len];exact h.len,srt_names (upd_names _ _ _ (fun _=>rfl)) h.srt,?_⟩
   simp only[upd_at hp];have hu:=used_set d.files _ hp { d.files[posF d.files (fileN g.base)] with data:=d.files[posF d.files (fileN g.base)].data.take g.size.toNat,sure:=if g.size<d.files[posF d.files (fileN g.base)].sure then g.size else d.files[posF d.files (fileN g.base)].sure }
   have:=h.used;simp only[List.length_take] at hu;omega
 ·cases h0
theorem mend_ok {k u:Nat} {d:Dsk} (h:okN k u d) (g:Seg):okN k u (mendT d g).1:=by
 unfold mendT;refine syn_ok ?_ _;split
 ·exact cut_okN h g
 ·exact h
theorem head_at {l:List Int} (h:1<=l.length):(l.map eI)[0]?=some [.i .i64 (l.headD 0)]:=by
 cases l with
 | nil=>simp at h
 | cons a r=>rfl
theorem segsT_len:∀ (d:Dsk) (l:List Int) (gs:List Seg),segsT d l=some gs->gs.length=l.length
 | d,[],gs,h=>by simp only[segsT] at h;cases h;rfl
 | d,b::r,gs,h=>by
  rw[segsT_cons] at h;split at h
  ·cases h
  ·cases r with
   | nil=>simp only[Option.some.injEq] at h;subst h;rfl
   | cons c r =>
    simp only at h;split at h
    ·cases h
    ·obtain⟨gs',h1,h2⟩:=Option.map_eq_some_iff.1 h;subst h2;rw[List.length_cons,segsT_len d (c::r) gs' h1];rfl
theorem segsT_bd {k u:Nat} {d:Dsk} (hd:okN k u d):∀ (l:List Int) (gs:List Seg),segsT d l=some gs->∀ g∈gs,g.base∈l∧(0<=g.n∧g.n<=u)∧(0<=g.size)
 | [],gs,h=>by simp only[segsT] at h;cases h;simp
 | b::r,gs,h=>by
  have hone:b∈b::r∧(0<=(segT d b).1.n∧(segT d b).1.n<=u)∧0<=(segT d b).1.size:=by
   have:=Nat.le_trans (scanS_len (readF d.files (fileN b)).1 b) (Nat.le_trans (readF_len _ _) hd.used);refine⟨by simp,⟨?_,?_⟩,?_⟩
   ·show 0<=((_:Nat):Int);omega
   ·show((_:Nat):Int)<=_;omega
   ·show 0<=((_:Nat):Int);omega
  rw[segsT_cons] at h;split at h
  ·cases h
  ·cases r with
   | nil=>simp only[Option.some.injEq] at h;subst h;intro g hg;rw[List.mem_singleton.1 hg];exact hone
   | cons c r =>
    simp only at h;split at h
    ·cases h
    ·obtain⟨gs',h1,h2⟩:=Option.map_eq_some_iff.1 h;subst h2;intro g hg;rcases List.mem_cons.1 hg with rfl|hg
     ·exact hone
     ·have:=segsT_bd hd (c::r) gs' h1 g hg;exact⟨List.mem_cons_of_mem _ this.1,this.2⟩
set_option maxRecDepth 20000 in
set_option maxHeartbeats 8000000 in
theorem ropen_spec {k u:Nat} (d:Dsk) (hd:okN k u d) (hk:k<=700000) (hu:u<=1000000) (hdec:∀ m,decM (readF d.files [109]).1=some m->m.ok):call 20 [.agg d.l] []=some (stoV (openT d),[]):=by
 have hrd:=fun n=>rread_spec d (Nat.le_trans hd.len (by omega)) hd.srt n
 have hcell:∀ s:Sto,s.l=[.d (.l (s.disk.files.map Fil.enc)),.d (.i .i64 s.disk.cap),.d (.b s.disk.armed),.d (.i .i64 s.disk.left),.d (.b s.disk.down),.d (.i .i64 s.ver),.d (.l (s.segs.map Seg.enc)),.d (.i .i64 s.next),.d (.i .i64 s.sure),.d (.i .i64 s.size),.d (.i .u32 s.sum)]:=fun _=>rfl
 have hdl:∀ d:Dsk,d.l=([.d (.l (d.files.map Fil.enc)),.d (.i .i64 d.cap),.d (.b d.armed),.d (.i .i64 d.left),.d (.b d.down)]:List L):=fun _=>rfl
 have hds:∀ d:Dsk,[.d (.l ((deadS d).disk.files.map Fil.enc)),.d (.i .i64 (deadS d).disk.cap),.d (.b (deadS d).disk.armed),.d (.i .i64 (deadS d).disk.left),.d (.b (deadS d).disk.down),.d (.i .i64 (deadS d).ver),.d (.l ((deadS d).segs.map Seg.enc)),.d (.i .i64 (deadS d).next),.d (.i .i64 (deadS d).sure),.d (.i .i64 (deadS d).size),.d (.i .u32 (deadS d).sum)]=([.d (.l (d.files.map Fil.enc)),.d (.i .i64 d.cap),.d (.b d.armed),.d (.i .i64 d.left),.d (.b d.down),.d (.i .i64 0),.d (.l []),.d (.i .i64 0),.d (.i .i64 0),.d (.i .i64 0),.d (.i .u32 0)]:List L):=fun _=>rfl
 unfold openT;apply enterS s20 rfl;by_cases c0:d.down=true
 ·rw[if_pos c0];simp only[stoV,hcell,hds,hdl] at hrd ⊢;rw[c0];(simp(disch:=first|decide|omega|(intros;exact Eq.trans rfl rfl)|simp only[puri]) only[wkf,a20,go_sem,seval,dis])
  try simp[trim]
 ·rw[if_neg c0];have c0':d.down=false:=by simpa using c0
  have q1:=hrd [109];by_cases c1:(readF d.files [109]).2=0
  ·rw[if_neg (by simp[c1])]
   have hrl:=readF_len d.files [109];have hdu:=hd.used;obtain⟨Z,q2,hq2,hq3⟩:=rgetM_spec (readF d.files [109]).1 (by omega) hdec
   cases hdm:decM (readF d.files [109]).1 with
   | none =>
    obtain⟨e,he,rfl⟩:=hq3 hdm;unfold errM zeroM at q2;generalize readF d.files [109]=rf at *;simp only[stoV,hcell,hds,hdl] at q1 ⊢;rw[c0'] at q1 ⊢;(simp(disch:=first|decide|omega|(intros;exact Eq.trans rfl rfl)|simp only[puri]) only[wkf,a20,q1,c1,q2,he,go_sem,seval,dis])
    try simp[trim]
   | some m =>
    have hZ:=hq2 m hdm;subst hZ;have hmb:=manB_t (dec_some hdm).1;have hmi:=incB_mem _ _ hmb.2.2.1;have hmo:=hdec m hdm;have hne:1<=m.segs.length:=hmb.2.1.1;have g0:=head_at hne;have hb0:∀ b∈m.segs,0<=b∧b<=1099511627776:=fun b hb=>by have:=hmi b hb;omega
    have hh:0<=m.segs.headD 0∧m.segs.headD 0<=1099511627776:=by
     cases hs:m.segs with
     | nil=>rw[hs] at hne;simp at hne
     | cons b r=>rw[hs] at hb0;exact hb0 b (by simp)
    have q3:=rsnap_int hh;have q4:=hrd (snapN (m.segs.headD 0));have hr4:=readF_len d.files (snapN (m.segs.headD 0));have q5:=refOf_spec (readF d.files (snapN (m.segs.headD 0))).1 (by omega)
    have q6:=rsegs_spec d hd (by omega) hu m hmb.2.1.2 hb0
    have hgl:=segsT_len d m.segs;have hgb:=segsT_bd hd m.segs;have q7:=rsweep_spec d hd (by omega) (by omega) (useN m) (by unfold useN useS;split <;> simp <;> omega)
    have k7:=sweep_ok hd (useN m);have hlm:(m.segs.map eI).length=m.segs.length:=by simp
    have hml:m.l=([.d (.i .i64 m.ver),.d (.l (m.segs.map eI)),.d (.i .i64 m.size),.d (.i .u32 m.sum)]:List L):=rfl;obtain⟨Z,hZ⟩:∃ Z,Z=openR d m:=⟨_,rfl⟩;show _=some (stoV (openR d m),[]);rw[<- hZ];unfold openR at hZ;unfold manV4 at q2;have hsn:(sumT (readF d.files (snapN (m.segs.headD 0))).1)=(((crcOn 0#32 (readF d.files (snapN (m.segs.headD 0))).1).toNat:Nat):Int):=rfl;by_cases c2:0<m.segs.headD 0
    ·by_cases c3:(readF d.files (snapN (m.segs.headD 0))).2=0
     ·by_cases c4:((readF d.files (snapN (m.segs.headD 0))).1.length:Int)=m.size
      ·by_cases c5:sumT (readF d.files (snapN (m.segs.headD 0))).1=m.sum
       ·rw[if_pos (snapOk_iff.2 fun _=>⟨c3,c4,c5⟩)] at hZ
        have hU:useS m=[[109],snapN (m.segs.headD 0)]:=by unfold useS;rw[if_pos c2]
        rw[hsn] at c5;rw[hml] at q2 q6;simp only[hdl] at q1 q4 q6 q7 ⊢;rw[c0'] at q1 q4 q6 q7 ⊢;obtain⟨cc,hcc⟩:∃ cc:Int,(((crcOn 0#32 (readF d.files (snapN (m.segs.headD 0))).1).toNat:Nat):Int)=cc:=⟨_,rfl⟩;rw[hcc] at q5 c5;cases hsg:segsT d m.segs with
        | none =>
         rw[hsg] at hZ q6;simp only at hZ;subst hZ;unfold segsV at q6;simp only[stoV,hcell,hds];(simp(disch:=first|decide|omega|(intros;exact Eq.trans rfl rfl)|simp only[puri]) only[wkf,a20,q1,c1,q2,g0,decide_eq_true c2,q3,q4,c3,c4,q5,c5,q6,go_sem,seval,dis])
         try simp[trim,c0']
        | some gs =>
         rw[hsg] at hZ q6;simp only at hZ;replace hgl:=hgl gs hsg
         replace hgb:=hgb gs hsg
         simp only[segsV] at q6;(simp(disch:=first|decide|omega|(intros;exact Eq.trans rfl rfl)|simp only[puri]) only[wkf,a20,q1,c1,q2,g0,decide_eq_true c2,q3,q4,c3,c4,q5,c5,q6,go_sem,seval,dis])
         refine loop_boxM (m:=0) (σ:=Nat) (fun i=>m.segs.length-i) (fun i=>i<=m.segs.length) (fun i=>[V.one (.p 0 0),V.one (.p 1 0),V.one (.p 2 0),V.one (.sl 3 1 0 (useS m++(m.segs.take i).map fileN).length),vl (gs.map Seg.enc),vi (wholeT gs),vi i])
          (fun i=>[.cells [.d (.l (d.files.map Fil.enc)),.d (.i .i64 d.cap),.d (.b d.armed),.d (.i .i64 d.left),.d (.b false)],.cells [.ns,.d (.i .i64 0),.d (.b false),.d (.i .i64 0),.d (.b false),.d (.i .i64 0),.ns,.d (.i .i64 0),.d (.i .i64 0),.d (.i .i64 0),.d (.i .u32 0)],.cells [.d (.i .i64 m.ver),.d (.l (m.segs.map eI)),.d (.i .i64 m.size),.d (.i .u32 m.sum)],.arr 1 ((useS m++(m.segs.take i).map fileN).map eT) 0])
          (fun _=>(stoV Z,[])) ?_ 0 (Nat.zero_le _) _ _ (by rw[hU];exact hdM)
         intro i h1 R hR;have hul:(useS m).length<=2:=by unfold useS;split <;> simp
         clear hU;by_cases hi:i<m.segs.length
         ·have hc:(i:Int)<(m.segs.length:Int):=by omega
          have g1:(m.segs.map eI)[i]?=some [.i .i64 m.segs[i]]:=by rw[List.getElem?_map,List.getElem?_eq_getElem hi];rfl
          have qn:=rseg_spec (hb0 _ (List.getElem_mem hi));have hR':=hR (i+1) (by omega) (by omega)
          rw[List.take_succ_eq_append_getElem hi] at hR';have e2:(useS m++(m.segs.take i++[m.segs[i]]).map fileN).map eT=(useS m++(m.segs.take i).map fileN).map eT++[[.s (fileN m.segs[i])]]:=by
           rw[List.map_append,List.map_append,List.map_append];simp[eT]
          have e3:(useS m++(m.segs.take i++[m.segs[i]]).map fileN).length=(useS m++(m.segs.take i).map fileN).length+1:=by simp;omega
          have hlen:((useS m++(m.segs.take i).map fileN).map eT).length=(useS m++(m.segs.take i).map fileN).length:=by simp
          have hl2:(useS m++(m.segs.take i).map fileN).length<=66:=by simp;omega
          rw[e2,e3] at hR';generalize (useS m++(m.segs.take i).map fileN).length=n at *;generalize (useS m++(m.segs.take i).map fileN).map eT=Q at *;(simp(disch:=first|decide|omega|(intros;exact Eq.trans rfl rfl)|simp only[puri]) only[wkf,a20_0,decide_eq_true hc,hlm,g1,qn,hlen,go_sem,seval,dis])
          exact hR' _ _ hdM
         ·have hc:¬ (i:Int)<(m.segs.length:Int):=by omega
          have ht:m.segs.take i=m.segs:=List.take_of_length_le (by omega)
          rw[ht];have hun:useS m++m.segs.map fileN=useN m:=rfl;rw[hun];have htk:List.take (useN m).length ((useN m).map eT)=(useN m).map eT:=List.take_of_length_le (by simp)
          have hln:((useN m).map eT).length=(useN m).length:=by simp
          have hnl:(useN m).length<=66:=by unfold useN;simp;omega
          have hgm:gs≠[]:=by intro h;rw[h] at hgl;simp at hgl;omega
          have hgn:(gs.map Seg.enc).length=gs.length:=by simp
          have gl:(gs.map Seg.enc)[gs.length-1]?=some (gs.getLastD ⟨0,0,0⟩).enc:=by
           rw[List.getElem?_map,<- List.getLast?_eq_getElem?,List.getLastD_eq_getLast?,List.getLast?_eq_some_getLast hgm];rfl
          have ei:((gs.length:Int)-1).toNat=gs.length-1:=by omega
          have hgp:1<=gs.length:=by omega
          have hgq:gs.length<=64:=by omega
          have hwh:wholeT gs=(gs.getLastD ⟨0,0,0⟩).size:=rfl;have hgb':=hgb (gs.getLastD ⟨0,0,0⟩) (by rw[List.getLastD_eq_getLast?,List.getLast?_eq_some_getLast hgm];exact List.getLast_mem hgm)
          unfold openM at hZ;rw[hwh];generalize gs.getLastD ⟨0,0,0⟩=g at *;clear hgb hwh hgm hun hR ht;have hg0:=hb0 _ hgb'.1;have q8:=rseg_spec hg0;have q9:=rread_spec (sweepT (useN m) d).1 (Nat.le_trans k7.len (by omega)) k7.srt (fileN g.base)
          have qc:=rcut_spec (sweepT (useN m) d).1 (k7.ok (by omega) (by omega)) (fileN g.base) g.size
          have kc:=mend_ok k7 g;have qy:=fun d' (h:okN k u d')=>rsync_spec d' (h.ok (by omega) (by omega)) (fileN g.base)
          have hrl9:=readF_len (sweepT (useN m) d).1.files (fileN g.base);have hu9:=k7.used;have ecut:=cut_okN k7 g;unfold mendT synS stp at hZ;simp only at hZ;clear kc hdec hmi hmo hb0;clear q3 q4 q5 q6 hr4 hsn hh;generalize useN m=UN at *;generalize sweepT UN d=w at *;by_cases c8:w.2=0
          ·rw[if_neg (by simp[c8])] at hZ
           have hsz:=hgb'.2.2;have hgn0:=hgb'.2.1;by_cases c9:g.size<((readF w.1.files (fileN g.base)).1.length:Nat)
           ·rw[if_pos c9] at hZ;generalize chgF w.1 (cutR w.1.files (fileN g.base) g.size)=r at *;by_cases ca:r.2=0
            ·rw[if_pos ca] at hZ;have qz:=qy r.1 ecut;clear qy;generalize chgF r.1 (synR r.1.files (fileN g.base))=t at *;by_cases cb:t.2=0
             ·rw[if_neg (by simp[cb])] at hZ
              subst hZ;generalize readF w.1.files (fileN g.base)=rg at *;generalize fileN g.base=fg at *;obtain⟨⟨wf,wc,wa,wl,wd⟩,we⟩:=w;obtain⟨⟨rf',rc,ra,rl,rd⟩,re⟩:=r;obtain⟨⟨tf,tc,ta,tl,td⟩,te⟩:=t;obtain⟨gb,gn,gz⟩:=g;simp only[dskV,Dsk.l,Seg.enc] at *;(simp(disch:=first|decide|omega|(intros;exact Eq.trans rfl rfl)|simp only[puri]) only[wkf,a20_0,a20,decide_eq_false hc,hlm,htk,hln,q7,c8,gl,hgn,ei,q8,q9,decide_eq_true c9,qc,ca,qz,cb,stoV,hcell,go_sem,seval,dis])
              try simp[trim]
             ·rw[if_pos cb] at hZ;subst hZ;generalize readF w.1.files (fileN g.base)=rg at *;generalize fileN g.base=fg at *;obtain⟨⟨wf,wc,wa,wl,wd⟩,we⟩:=w;obtain⟨⟨rf',rc,ra,rl,rd⟩,re⟩:=r;obtain⟨⟨tf,tc,ta,tl,td⟩,te⟩:=t;obtain⟨gb,gn,gz⟩:=g;simp only[dskV,Dsk.l,Seg.enc] at *;(simp(disch:=first|decide|omega|(intros;exact Eq.trans rfl rfl)|simp only[puri]) only[wkf,a20_0,a20,decide_eq_false hc,hlm,htk,hln,q7,c8,gl,hgn,ei,q8,q9,decide_eq_true c9,qc,ca,qz,cb,stoV,hcell,hds,go_sem,seval,dis])
              try simp[trim]
            ·rw[if_neg ca,if_pos ca] at hZ;subst hZ;clear qy;generalize readF w.1.files (fileN g.base)=rg at *;generalize fileN g.base=fg at *;obtain⟨⟨wf,wc,wa,wl,wd⟩,we⟩:=w;obtain⟨⟨rf',rc,ra,rl,rd⟩,re⟩:=r;obtain⟨gb,gn,gz⟩:=g;simp only[dskV,Dsk.l,Seg.enc] at *;(simp(disch:=first|decide|omega|(intros;exact Eq.trans rfl rfl)|simp only[puri]) only[wkf,a20_0,a20,decide_eq_false hc,hlm,htk,hln,q7,c8,gl,hgn,ei,q8,q9,decide_eq_true c9,qc,ca,stoV,hcell,hds,go_sem,seval,dis])
             try simp[trim]
           ·rw[if_neg c9] at hZ;have qz:=qy w.1 k7;clear qy qc ecut;rw[if_pos rfl] at hZ;simp only at hZ;generalize chgF w.1 (synR w.1.files (fileN g.base))=t at *;by_cases cb:t.2=0
            ·rw[if_neg (by simp[cb])] at hZ
             subst hZ;generalize readF w.1.files (fileN g.base)=rg at *;generalize fileN g.base=fg at *;obtain⟨⟨wf,wc,wa,wl,wd⟩,we⟩:=w;obtain⟨⟨tf,tc,ta,tl,td⟩,te⟩:=t;obtain⟨gb,gn,gz⟩:=g;simp only[dskV,Dsk.l,Seg.enc] at *;(simp(disch:=first|decide|omega|(intros;exact Eq.trans rfl rfl)|simp only[puri]) only[wkf,a20_0,a20,decide_eq_false hc,hlm,htk,hln,q7,c8,gl,hgn,ei,q8,q9,decide_eq_false c9,qz,cb,stoV,hcell,go_sem,seval,dis])
             try simp[trim]
            ·rw[if_pos cb] at hZ;subst hZ;generalize readF w.1.files (fileN g.base)=rg at *;generalize fileN g.base=fg at *;obtain⟨⟨wf,wc,wa,wl,wd⟩,we⟩:=w;obtain⟨⟨tf,tc,ta,tl,td⟩,te⟩:=t;obtain⟨gb,gn,gz⟩:=g;simp only[dskV,Dsk.l,Seg.enc] at *;(simp(disch:=first|decide|omega|(intros;exact Eq.trans rfl rfl)|simp only[puri]) only[wkf,a20_0,a20,decide_eq_false hc,hlm,htk,hln,q7,c8,gl,hgn,ei,q8,q9,decide_eq_false c9,qz,cb,stoV,hcell,hds,go_sem,seval,dis])
             try simp[trim]
          ·rw[if_pos c8] at hZ;subst hZ;clear qy qc ecut;obtain⟨⟨wf,wc,wa,wl,wd⟩,we⟩:=w;simp only[dskV,Dsk.l] at *;(simp(disch:=first|decide|omega|(intros;exact Eq.trans rfl rfl)|simp only[puri]) only[wkf,a20_0,a20,decide_eq_false hc,hlm,htk,hln,q7,c8,stoV,hcell,hds,go_sem,seval,dis])
           try simp[trim]
       ·rw[if_neg fun h=>c5 (snapOk_iff.1 h c2).2.2] at hZ
        subst hZ;rw[hsn] at c5;rw[hml] at q2;generalize readF d.files [109]=rf at *;generalize readF d.files (snapN (m.segs.headD 0))=rs at *;generalize snapN (m.segs.headD 0)=sn at *;generalize m.segs.headD 0=h0 at *;simp only[stoV,hcell,hds,hdl] at q1 q4 ⊢;rw[c0'] at q1 q4 ⊢;obtain⟨cc,hcc⟩:∃ cc:Int,(((crcOn 0#32 rs.1).toNat:Nat):Int)=cc:=⟨_,rfl⟩;rw[hcc] at q5 c5;(simp(disch:=first|decide|omega|(intros;exact Eq.trans rfl rfl)|simp only[puri]) only[wkf,a20,q1,c1,q2,g0,decide_eq_true c2,q3,q4,c3,c4,q5,c5,go_sem,seval,dis])
        try simp[trim]
      ·rw[if_neg fun h=>c4 (snapOk_iff.1 h c2).2.1] at hZ
       subst hZ;rw[hml] at q2;generalize readF d.files [109]=rf at *;generalize readF d.files (snapN (m.segs.headD 0))=rs at *;generalize snapN (m.segs.headD 0)=sn at *;generalize m.segs.headD 0=h0 at *;simp only[stoV,hcell,hds,hdl] at q1 q4 ⊢;rw[c0'] at q1 q4 ⊢;(simp(disch:=first|decide|omega|(intros;exact Eq.trans rfl rfl)|simp only[puri]) only[wkf,a20,q1,c1,q2,g0,decide_eq_true c2,q3,q4,c3,c4,go_sem,seval,dis])
       try simp[trim]
     ·rw[if_neg fun h=>c3 (snapOk_iff.1 h c2).1] at hZ
      subst hZ;rw[hml] at q2;generalize readF d.files [109]=rf at *;generalize readF d.files (snapN (m.segs.headD 0))=rs at *;generalize snapN (m.segs.headD 0)=sn at *;generalize m.segs.headD 0=h0 at *;simp only[stoV,hcell,hds,hdl] at q1 q4 ⊢;rw[c0'] at q1 q4 ⊢;(simp(disch:=first|decide|omega|(intros;exact Eq.trans rfl rfl)|simp only[puri]) only[wkf,a20,q1,c1,q2,g0,decide_eq_true c2,q3,q4,c3,go_sem,seval,dis])
      try simp[trim]
    ·rw[if_pos (snapOk_iff.2 fun h=>absurd h c2)] at hZ
     have hU:useS m=[[109]]:=by unfold useS;rw[if_neg c2]
     rw[hml] at q2 q6;simp only[hdl] at q1 q4 q6 q7 ⊢;rw[c0'] at q1 q4 q6 q7 ⊢;cases hsg:segsT d m.segs with
     | none =>
      rw[hsg] at hZ q6;simp only at hZ;subst hZ;unfold segsV at q6;simp only[stoV,hcell,hds];(simp(disch:=first|decide|omega|(intros;exact Eq.trans rfl rfl)|simp only[puri]) only[wkf,a20,q1,c1,q2,g0,decide_eq_false c2,q6,go_sem,seval,dis])
      try simp[trim,c0']
     | some gs =>
      rw[hsg] at hZ q6;simp only at hZ;replace hgl:=hgl gs hsg
      replace hgb:=hgb gs hsg
      simp only[segsV] at q6;(simp(disch:=first|decide|omega|(intros;exact Eq.trans rfl rfl)|simp only[puri]) only[wkf,a20,q1,c1,q2,g0,decide_eq_false c2,q6,go_sem,seval,dis])
      refine loop_boxM (m:=0) (σ:=Nat) (fun i=>m.segs.length-i) (fun i=>i<=m.segs.length) (fun i=>[V.one (.p 0 0),V.one (.p 1 0),V.one (.p 2 0),V.one (.sl 3 1 0 (useS m++(m.segs.take i).map fileN).length),vl (gs.map Seg.enc),vi (wholeT gs),vi i])
       (fun i=>[.cells [.d (.l (d.files.map Fil.enc)),.d (.i .i64 d.cap),.d (.b d.armed),.d (.i .i64 d.left),.d (.b false)],.cells [.ns,.d (.i .i64 0),.d (.b false),.d (.i .i64 0),.d (.b false),.d (.i .i64 0),.ns,.d (.i .i64 0),.d (.i .i64 0),.d (.i .i64 0),.d (.i .u32 0)],.cells [.d (.i .i64 m.ver),.d (.l (m.segs.map eI)),.d (.i .i64 m.size),.d (.i .u32 m.sum)],.arr 1 ((useS m++(m.segs.take i).map fileN).map eT) 0])
       (fun _=>(stoV Z,[])) ?_ 0 (Nat.zero_le _) _ _ (by rw[hU];exact hdM)
      intro i h1 R hR;have hul:(useS m).length<=2:=by unfold useS;split <;> simp
      clear hU;by_cases hi:i<m.segs.length
      ·have hc:(i:Int)<(m.segs.length:Int):=by omega
       have g1:(m.segs.map eI)[i]?=some [.i .i64 m.segs[i]]:=by rw[List.getElem?_map,List.getElem?_eq_getElem hi];rfl
       have qn:=rseg_spec (hb0 _ (List.getElem_mem hi));have hR':=hR (i+1) (by omega) (by omega)
       rw[List.take_succ_eq_append_getElem hi] at hR';have e2:(useS m++(m.segs.take i++[m.segs[i]]).map fileN).map eT=(useS m++(m.segs.take i).map fileN).map eT++[[.s (fileN m.segs[i])]]:=by
        rw[List.map_append,List.map_append,List.map_append];simp[eT]
       have e3:(useS m++(m.segs.take i++[m.segs[i]]).map fileN).length=(useS m++(m.segs.take i).map fileN).length+1:=by simp;omega
       have hlen:((useS m++(m.segs.take i).map fileN).map eT).length=(useS m++(m.segs.take i).map fileN).length:=by simp
       have hl2:(useS m++(m.segs.take i).map fileN).length<=66:=by simp;omega
       rw[e2,e3] at hR';generalize (useS m++(m.segs.take i).map fileN).length=n at *;generalize (useS m++(m.segs.take i).map fileN).map eT=Q at *;(simp(disch:=first|decide|omega|(intros;exact Eq.trans rfl rfl)|simp only[puri]) only[wkf,a20_0,decide_eq_true hc,hlm,g1,qn,hlen,go_sem,seval,dis])
       exact hR' _ _ hdM
      ·have hc:¬ (i:Int)<(m.segs.length:Int):=by omega
       have ht:m.segs.take i=m.segs:=List.take_of_length_le (by omega)
       rw[ht];have hun:useS m++m.segs.map fileN=useN m:=rfl;rw[hun];have htk:List.take (useN m).length ((useN m).map eT)=(useN m).map eT:=List.take_of_length_le (by simp)
       have hln:((useN m).map eT).length=(useN m).length:=by simp
       have hnl:(useN m).length<=66:=by unfold useN;simp;omega
       have hgm:gs≠[]:=by intro h;rw[h] at hgl;simp at hgl;omega
       have hgn:(gs.map Seg.enc).length=gs.length:=by simp
       have gl:(gs.map Seg.enc)[gs.length-1]?=some (gs.getLastD ⟨0,0,0⟩).enc:=by
        rw[List.getElem?_map,<- List.getLast?_eq_getElem?,List.getLastD_eq_getLast?,List.getLast?_eq_some_getLast hgm];rfl
       have ei:((gs.length:Int)-1).toNat=gs.length-1:=by omega
       have hgp:1<=gs.length:=by omega
       have hgq:gs.length<=64:=by omega
       have hwh:wholeT gs=(gs.getLastD ⟨0,0,0⟩).size:=rfl;have hgb':=hgb (gs.getLastD ⟨0,0,0⟩) (by rw[List.getLastD_eq_getLast?,List.getLast?_eq_some_getLast hgm];exact List.getLast_mem hgm)
       unfold openM at hZ;rw[hwh];generalize gs.getLastD ⟨0,0,0⟩=g at *;clear hgb hwh hgm hun hR ht;have hg0:=hb0 _ hgb'.1;have q8:=rseg_spec hg0;have q9:=rread_spec (sweepT (useN m) d).1 (Nat.le_trans k7.len (by omega)) k7.srt (fileN g.base)
       have qc:=rcut_spec (sweepT (useN m) d).1 (k7.ok (by omega) (by omega)) (fileN g.base) g.size
       have kc:=mend_ok k7 g;have qy:=fun d' (h:okN k u d')=>rsync_spec d' (h.ok (by omega) (by omega)) (fileN g.base)
       have hrl9:=readF_len (sweepT (useN m) d).1.files (fileN g.base);have hu9:=k7.used;have ecut:=cut_okN k7 g;unfold mendT synS stp at hZ;simp only at hZ;clear kc hdec hmi hmo hb0;clear q3 q4 q5 q6 hr4 hsn hh;generalize useN m=UN at *;generalize sweepT UN d=w at *;by_cases c8:w.2=0
       ·rw[if_neg (by simp[c8])] at hZ
        have hsz:=hgb'.2.2;have hgn0:=hgb'.2.1;by_cases c9:g.size<((readF w.1.files (fileN g.base)).1.length:Nat)
        ·rw[if_pos c9] at hZ;generalize chgF w.1 (cutR w.1.files (fileN g.base) g.size)=r at *;by_cases ca:r.2=0
         ·rw[if_pos ca] at hZ;have qz:=qy r.1 ecut;clear qy;generalize chgF r.1 (synR r.1.files (fileN g.base))=t at *;by_cases cb:t.2=0
          ·rw[if_neg (by simp[cb])] at hZ
           subst hZ;generalize readF w.1.files (fileN g.base)=rg at *;generalize fileN g.base=fg at *;obtain⟨⟨wf,wc,wa,wl,wd⟩,we⟩:=w;obtain⟨⟨rf',rc,ra,rl,rd⟩,re⟩:=r;obtain⟨⟨tf,tc,ta,tl,td⟩,te⟩:=t;obtain⟨gb,gn,gz⟩:=g;simp only[dskV,Dsk.l,Seg.enc] at *;(simp(disch:=first|decide|omega|(intros;exact Eq.trans rfl rfl)|simp only[puri]) only[wkf,a20_0,a20,decide_eq_false hc,hlm,htk,hln,q7,c8,gl,hgn,ei,q8,q9,decide_eq_true c9,qc,ca,qz,cb,stoV,hcell,go_sem,seval,dis])
           try simp[trim]
          ·rw[if_pos cb] at hZ;subst hZ;generalize readF w.1.files (fileN g.base)=rg at *;generalize fileN g.base=fg at *;obtain⟨⟨wf,wc,wa,wl,wd⟩,we⟩:=w;obtain⟨⟨rf',rc,ra,rl,rd⟩,re⟩:=r;obtain⟨⟨tf,tc,ta,tl,td⟩,te⟩:=t;obtain⟨gb,gn,gz⟩:=g;simp only[dskV,Dsk.l,Seg.enc] at *;(simp(disch:=first|decide|omega|(intros;exact Eq.trans rfl rfl)|simp only[puri]) only[wkf,a20_0,a20,decide_eq_false hc,hlm,htk,hln,q7,c8,gl,hgn,ei,q8,q9,decide_eq_true c9,qc,ca,qz,cb,stoV,hcell,hds,go_sem,seval,dis])
           try simp[trim]
         ·rw[if_neg ca,if_pos ca] at hZ;subst hZ;clear qy;generalize readF w.1.files (fileN g.base)=rg at *;generalize fileN g.base=fg at *;obtain⟨⟨wf,wc,wa,wl,wd⟩,we⟩:=w;obtain⟨⟨rf',rc,ra,rl,rd⟩,re⟩:=r;obtain⟨gb,gn,gz⟩:=g;simp only[dskV,Dsk.l,Seg.enc] at *;(simp(disch:=first|decide|omega|(intros;exact Eq.trans rfl rfl)|simp only[puri]) only[wkf,a20_0,a20,decide_eq_false hc,hlm,htk,hln,q7,c8,gl,hgn,ei,q8,q9,decide_eq_true c9,qc,ca,stoV,hcell,hds,go_sem,seval,dis])
          try simp[trim]
        ·rw[if_neg c9] at hZ;have qz:=qy w.1 k7;clear qy qc ecut;rw[if_pos rfl] at hZ;simp only at hZ;generalize chgF w.1 (synR w.1.files (fileN g.base))=t at *;by_cases cb:t.2=0
         ·rw[if_neg (by simp[cb])] at hZ
          subst hZ;generalize readF w.1.files (fileN g.base)=rg at *;generalize fileN g.base=fg at *;obtain⟨⟨wf,wc,wa,wl,wd⟩,we⟩:=w;obtain⟨⟨tf,tc,ta,tl,td⟩,te⟩:=t;obtain⟨gb,gn,gz⟩:=g;simp only[dskV,Dsk.l,Seg.enc] at *;(simp(disch:=first|decide|omega|(intros;exact Eq.trans rfl rfl)|simp only[puri]) only[wkf,a20_0,a20,decide_eq_false hc,hlm,htk,hln,q7,c8,gl,hgn,ei,q8,q9,decide_eq_false c9,qz,cb,stoV,hcell,go_sem,seval,dis])
          try simp[trim]
         ·rw[if_pos cb] at hZ;subst hZ;generalize readF w.1.files (fileN g.base)=rg at *;generalize fileN g.base=fg at *;obtain⟨⟨wf,wc,wa,wl,wd⟩,we⟩:=w;obtain⟨⟨tf,tc,ta,tl,td⟩,te⟩:=t;obtain⟨gb,gn,gz⟩:=g;simp only[dskV,Dsk.l,Seg.enc] at *;(simp(disch:=first|decide|omega|(intros;exact Eq.trans rfl rfl)|simp only[puri]) only[wkf,a20_0,a20,decide_eq_false hc,hlm,htk,hln,q7,c8,gl,hgn,ei,q8,q9,decide_eq_false c9,qz,cb,stoV,hcell,hds,go_sem,seval,dis])
          try simp[trim]
       ·rw[if_pos c8] at hZ;subst hZ;clear qy qc ecut;obtain⟨⟨wf,wc,wa,wl,wd⟩,we⟩:=w;simp only[dskV,Dsk.l] at *;(simp(disch:=first|decide|omega|(intros;exact Eq.trans rfl rfl)|simp only[puri]) only[wkf,a20_0,a20,decide_eq_false hc,hlm,htk,hln,q7,c8,stoV,hcell,hds,go_sem,seval,dis])
        try simp[trim]
  ·rw[if_pos c1];have q3:=rfresh_spec d hd hk (by omega)
   generalize readF d.files [109]=rf at *;generalize freshT d=r at *;obtain⟨y,e⟩:=r;simp only[stoV,hcell,hdl] at q1 q3 ⊢;rw[c0'] at q1 q3 ⊢;(simp(disch:=first|decide|omega|(intros;exact Eq.trans rfl rfl)|simp only[puri]) only[wkf,a20,q1,c1,q3,go_sem,seval,dis])
   try simp[trim]
def inB (l:List Fil):Prop:=∀ x∈l,0<=x.sure∧x.sure<=((x.data.length:Nat):Int)
theorem chg_in {d:Dsk} (h:inB d.files) {r:List Fil × Int} (hr:r.2=0->inB r.1):inB (chgF d r).1.files:=by
 unfold chgF;split
 ·exact h
 ·split
  ·exact h
  ·rename_i h0;have h0:r.2=0:=by simpa using h0
   split
   ·split
    ·exact h
    ·exact hr h0
   ·exact hr h0
theorem ins_in {l:List Fil} (h:inB l) (k:Nat) {f:Fil} (hf:0<=f.sure∧f.sure<=((f.data.length:Nat):Int)):inB (insF l k f):=by
 intro x hx;unfold insF at hx;rcases List.mem_append.1 hx with hx|hx
 ·exact h x (List.mem_of_mem_take hx)
 ·rcases List.mem_cons.1 hx with rfl|hx
  ·exact hf
  ·exact h x (List.mem_of_mem_drop hx)
theorem set_in {l:List Fil} (h:inB l) (k:Nat) {f:Fil} (hf:0<=f.sure∧f.sure<=((f.data.length:Nat):Int)):inB (l.set k f):=by
 intro x hx;rcases List.mem_or_eq_of_mem_set hx with hx|rfl
 ·exact h x hx
 ·exact hf
theorem upd_in {l:List Fil} (h:inB l) (k:Nat) {g:Fil->Fil} (hg:∀ f:Fil,(0<=f.sure∧f.sure<=((f.data.length:Nat):Int))->(0<=(g f).sure∧(g f).sure<=(((g f).data.length:Nat):Int))):inB (updF l k g):=by
 unfold updF;split
 ·rename_i f hf;exact set_in h k (hg f (h f (List.mem_of_getElem? hf)))
 ·exact h
theorem dlt_in {l:List Fil} (h:inB l) (k:Nat):inB (delF l k):=by
 intro x hx;unfold delF at hx;rcases List.mem_append.1 hx with hx|hx
 ·exact h x (List.mem_of_mem_take hx)
 ·exact h x (List.mem_of_mem_drop hx)
theorem crt_in {d:Dsk} (h:inB d.files) (n:Txt):inB (chgF d (crtR d.files n)).1.files:=chg_in h fun h0=>by
 unfold crtR at h0 ⊢;split at h0
 ·split at h0
  ·cases h0
  ·rename_i h1 h2;rw[if_pos h1,if_neg h2];exact ins_in h _ (by simp)
 ·cases h0
theorem app_in {d:Dsk} (h:inB d.files) (n x:Txt):inB (chgF d (appR d.files d.cap n x)).1.files:=chg_in h fun h0=>by
 unfold appR at h0 ⊢;split at h0
 ·split at h0
  ·cases h0
  ·rename_i h1 h2;rw[if_pos h1,if_neg h2];exact upd_in h _ fun f hf=>⟨hf.1,by show f.sure<=(((f.data++x).length:Nat):Int);rw[List.length_append];omega⟩
 ·cases h0
theorem syn_in {d:Dsk} (h:inB d.files) (n:Txt):inB (chgF d (synR d.files n)).1.files:=chg_in h fun h0=>by
 unfold synR at h0 ⊢;split at h0
 ·rename_i h1;rw[if_pos h1];exact upd_in h _ fun f hf=>⟨by show(0:Int)<=((f.data.length:Nat):Int);omega,Int.le_refl _⟩
 ·cases h0
theorem del_in {d:Dsk} (h:inB d.files) (n:Txt):inB (chgF d (delR d.files n)).1.files:=chg_in h fun h0=>by
 unfold delR at h0 ⊢;split at h0
 ·rename_i h1;rw[if_pos h1];exact dlt_in h _
 ·cases h0
theorem ren_in {d:Dsk} (h:inB d.files) (n t:Txt):inB (chgF d (renR d.files n t)).1.files:=chg_in h fun h0=>by
 unfold renR at h0 ⊢;split at h0
 ·split at h0
  ·rename_i h1 h2;rw[if_pos h1,if_pos h2];have hf:0<=(nameAt d.files (posF d.files n) t).sure∧(nameAt d.files (posF d.files n) t).sure<=(((nameAt d.files (posF d.files n) t).data.length:Nat):Int):=by
    unfold nameAt;split
    ·rename_i f hf;exact h f (List.mem_of_getElem? hf)
    ·simp
   simp only[putAt];split
   ·exact set_in (dlt_in h _) _ hf
   ·exact ins_in (dlt_in h _) _ hf
  ·cases h0
 ·cases h0
theorem stp_in {s:Dsk × Int} {f:Dsk->Dsk × Int} (h:inB s.1.files) (hf:inB (f s.1).1.files):inB (stp s f).1.files:=by
 unfold stp;split
 ·exact hf
 ·exact h
theorem crtS_in {s:Dsk × Int} (h:inB s.1.files) (n:Txt):inB (crtS n s).1.files:=stp_in h (crt_in h n)
theorem delS_in {s:Dsk × Int} (h:inB s.1.files) (n:Txt):inB (delS n s).1.files:=stp_in h (del_in h n)
theorem synS_in {s:Dsk × Int} (h:inB s.1.files) (n:Txt):inB (synS n s).1.files:=stp_in h (syn_in h n)
theorem appS_in {s:Dsk × Int} (h:inB s.1.files) (n x:Txt):inB (appS n x s).1.files:=stp_in h (app_in h n x)
theorem renS_in {s:Dsk × Int} (h:inB s.1.files) (n t:Txt):inB (renS n t s).1.files:=stp_in h (ren_in h n t)
theorem unlS_in {s:Dsk × Int} (h:inB s.1.files) (n:Txt):inB (unlS n s).1.files:=by
 unfold unlS;split
 ·exact h
 ·split
  ·exact delS_in (s:=(s.1,0)) h n
  ·exact delS_in (s:=(s.1,0)) h n
theorem swap_in {s:Dsk × Int} (h:inB s.1.files) (m:Man):inB (swapS m s).1.files:=by
 unfold swapS;simp only[];have h1:inB (if s.2=0 then(s.1,(manPut m).2) else s).1.files:=by split <;> exact h
 generalize (if s.2=0 then(s.1,(manPut m).2) else s)=s1 at *
 have h2:inB (if(readF s1.1.files [110]).2=0 then delS [110] s1 else s1).1.files:=by
  split
  ·exact delS_in h1 _
  ·exact h1
 generalize (if(readF s1.1.files [110]).2=0 then delS [110] s1 else s1)=s2 at *
 have h3:=crtS_in h2 [110];split
 ·exact h3
 ·exact renS_in (synS_in (unlS_in (appS_in h3 _ _) _) _) _ _
theorem sync_in {s:Sto} (h:inB s.disk.files):inB (syncT s).1.disk.files:=syn_in h _
theorem roll_in {s:Sto} (h:inB s.disk.files):inB (rollT s).1.disk.files:=by
 unfold rollT;split
 ·exact h
 ·have h2:=sync_in h;split
  ·exact h2
  ·generalize (syncT s).1=t at *;have h3:inB (rollD t).1.files:=by
    unfold rollD;have h4:=crtS_in (s:=(t.disk,0)) h2 (fileN t.next);simp only[];split
    ·exact unlS_in (swap_in h4 _) _
    ·exact h4
   split
   ·exact h3
   ·exact h3
theorem put_in {s:Sto} (h:inB s.disk.files) (x:Txt):inB (putT s x).1.disk.files:=by
 have h2:=app_in h (fileN s.last.base) x;unfold putT;simp only[];split
 ·exact h2
 ·exact h2
theorem appT_in {s:Sto} (h:inB s.disk.files) (seg:Int) (r:Rec):inB (appT s seg r).1.disk.files:=by
 unfold appT;split
 ·exact h
 ·split
  ·exact h
  ·split
   ·split
    ·exact roll_in h
    ·exact put_in (roll_in h) _
   ·exact put_in h _
theorem goP_in:∀ (l:List Txt) (s:Dsk × Int),inB s.1.files->inB (goP l s).1.files
 | [],s,h=>h
 | n::l,s,h=>goP_in l _ (delS_in h n)
theorem dels_in:∀ (l:List Seg) (s:Dsk × Int),inB s.1.files->inB (delsF l s).1.files
 | [],s,h=>h
 | n::l,s,h=>dels_in l _ (delS_in h _)
theorem trim_in {s:Sto} (h:inB s.disk.files) (a b:Int):inB (trimT s a b).1.disk.files:=by
 unfold trimT;split
 ·exact h
 ·generalize pickF s.segs a b=k;unfold trimK;have h2:inB (layT s.disk (snapN (baseF s.segs k)) (bytesF (stateT s (baseF s.segs k))) (trimX s k).man).1.files:=by
   unfold layT;simp only[];have h4:=crtS_in (s:=(s.disk,0)) h (snapN (baseF s.segs k));generalize crtS (snapN (baseF s.segs k)) (s.disk,0)=q at *;have h5:inB (if q.2=0 then unlS (snapN (baseF s.segs k)) (appS (snapN (baseF s.segs k)) (bytesF (stateT s (baseF s.segs k))) q) else q).1.files:=by
    split
    ·exact unlS_in (appS_in h4 _ _) _
    ·exact h4
   generalize (if q.2=0 then unlS (snapN (baseF s.segs k)) (appS (snapN (baseF s.segs k)) (bytesF (stateT s (baseF s.segs k))) q) else q)=q2 at *
   have h6:=synS_in h5 (snapN (baseF s.segs k));split
   ·exact unlS_in (swap_in h6 _) _
   ·exact h6
  generalize layT s.disk (snapN (baseF s.segs k)) (bytesF (stateT s (baseF s.segs k))) (trimX s k).man=e at *;simp only[];split
  ·exact h2
  ·show inB (oldT s k e).1.files;unfold oldT;have h7:=dels_in (s.segs.take k) e h2;simp only[];split
   ·exact delS_in h7 _
   ·exact h7
theorem back_in:∀ (l:List Txt) (d:Dsk),inB d.files->inB (backT l d).1.files
 | [],d,h=>h
 | n::l,d,h=>by
  have h2:=del_in h n;simp only[backT];split
  ·exact h2
  ·exact back_in l _ h2
theorem u0_in {d:Dsk} (h:inB d.files) (n g x:Txt) (m:Man):inB (u0 n g x m d).1.1.files:=by
 have p4:∀ d:Dsk,inB d.files->inB (u4 n g m d).1.1.files:=fun d h=>by
  have h2:=swap_in (s:=(d,0)) h m;unfold u4;split
  ·exact back_in _ _ h2
  ·exact h2
 have p3:∀ d:Dsk,inB d.files->inB (u3 n g m d).1.1.files:=fun d h=>by
  have h2:=crt_in h g;unfold u3;split
  ·exact h2
  ·exact p4 _ h2
 have p2:∀ d:Dsk,inB d.files->inB (u2 n g m d).1.1.files:=fun d h=>by
  have h2:=syn_in h n;unfold u2;split
  ·exact h2
  ·exact p3 _ h2
 have p1:∀ d:Dsk,inB d.files->inB (u1 n g x m d).1.1.files:=fun d h=>by
  have h2:=app_in h n x;unfold u1;split
  ·exact back_in _ _ h2
  ·split
   ·exact h2
   ·exact p2 _ h2
 have h2:=crt_in h n;unfold u0;split
 ·exact h2
 ·exact p1 _ h2
theorem inst_in {s:Sto} (h:inB s.disk.files) (at_:Int) (x:Txt):inB (instT s at_ x).1.disk.files:=by
 unfold instT;split
 ·exact h
 ·have h2:=u0_in h (snapN at_) (fileN at_) x (newX (s.ver+1) at_ x).man;split
  ·exact h2
  ·show inB (goT _ _).1.files;rw[goT_goP];exact goP_in _ _ h2
theorem create_in {d:Dsk} (h:inB d.files):inB (createT d).1.disk.files:=by
 unfold createT;simp only[];have h1:=crtS_in (s:=(d,0)) h (fileN 0);generalize crtS (fileN 0) (d,0)=q at *;have h2:inB (if q.2=0 then swapS ⟨1,[0],0,0⟩ q else q).1.files:=by
  split
  ·exact swap_in h1 _
  ·exact h1
 generalize (if q.2=0 then swapS ⟨1,[0],0,0⟩ q else q)=q2 at *
 split
 ·exact h2
 ·exact h2
theorem act_in {s:Sto} (h:inB s.disk.files) (seg i:Int) (a:Ac):inB (actT seg i s a).disk.files:=by
 unfold actT;split
 ·exact sync_in h
 ·split
  ·exact trim_in h _ _
  ·split
   ·exact h
   ·split
    ·exact h
    ·exact appT_in h _ _
theorem runA_in (seg:Int):∀ (l:List Ac) (i:Int) (s:Sto),inB s.disk.files->inB (runA seg i l s).1.disk.files
 | [],i,s,h=>h
 | a::l,i,s,h=>by
  simp only[runA];split
  ·exact h
  ·exact runA_in seg l (i+1) _ (act_in h seg i a)
theorem play_in (seg:Int) (l:List Ac):inB (playT seg l).1.disk.files:=by
 have h0:inB (createT d0).1.disk.files:=create_in (d:=d0) (fun x hx=>by cases hx)
 unfold playT;split
 ·exact h0
 ·exact runA_in seg l 0 _ h0
def crN (f:Fil) (k:Option Int):Int:=match k with|some a=>max 0 (min a ((f.data.length:Nat)-f.sure))|none=>0
def crF (f:Fil) (k:Option Int):Fil:=⟨f.name,f.data.take (f.sure+crN f k).toNat,f.sure+crN f k⟩
def crL (l:List Fil) (keep:List Int):List Fil:=l.mapIdx fun i f=>crF f keep[i]?
def crashT (d:Dsk) (keep:List Int):Dsk:=⟨crL d.files keep,d.cap,false,0,false⟩
theorem crN_in {f:Fil} (h:0<=f.sure∧f.sure<=((f.data.length:Nat):Int)) (k:Option Int):0<=crN f k∧f.sure+crN f k<=((f.data.length:Nat):Int):=by
 unfold crN;cases k with
 | none=>simp only[];omega
 | some a=>simp only[];omega
theorem crL_len (l:List Fil) (keep:List Int):(crL l keep).length=l.length:=by simp[crL]
theorem crL_at (l:List Fil) (keep:List Int) (i:Nat) (h:i<l.length):(crL l keep).take (i+1)=(crL l keep).take i++[crF l[i] keep[i]?]:=by
 rw[List.take_succ_eq_append_getElem (by rw[crL_len];exact h)]
 simp[crL]
set_option maxRecDepth 8000 in
set_option maxHeartbeats 4000000 in
theorem rcrash_spec (d:Dsk) (hl:d.files.length<=1000000) (hu:usedF d.files<=1000000000000) (hin:inB d.files) (keep:List Int) (hk:keep.length<=1000000) (hki:∀ a∈keep,-9223372036854775808<=a∧a<9223372036854775808):call 21 [.agg d.l,vl (keep.map eI)] []=some (.agg (crashT d keep).l,[]):=by
 obtain⟨Z,hZ⟩:∃ Z,Z=(crashT d keep).l:=⟨_,rfl⟩;rw[<- hZ];unfold crashT at hZ;obtain⟨fl,cp,ar,lf,dn⟩:=d;simp only[Dsk.l] at hl hu hin hZ ⊢;apply enterS s21 rfl;(simp(disch:=first|decide|omega|(intros;exact Eq.trans rfl rfl)|simp only[puri]) only[wkf,a21,go_sem,seval,dis])
 refine loop_boxM (m:=0) (σ:=Nat) (fun i=>fl.length-i) (fun i=>i<=fl.length) (fun i=>[vl (keep.map eI),V.one (.p 0 0),V.one (.p 1 0),V.one (.sl 2 3 0 ((crL fl keep).take i).length),vi i])
  (fun i=>[.cells [.d (.l (fl.map Fil.enc)),.d (.i .i64 cp),.d (.b ar),.d (.i .i64 lf),.d (.b dn)],.cells [.ns,.d (.i .i64 0),.d (.b false),.d (.i .i64 0),.d (.b false)],.arr 3 (((crL fl keep).take i).map Fil.enc) 0]) (fun _=>(V.agg Z,[])) ?_ 0 (Nat.zero_le _) _ _ hdM
 intro i h1 R hR;have hcl:=crL_len fl keep;by_cases hi:i<fl.length
 ·have hc:(i:Int)<(fl.length:Int):=by omega
  have g1:(fl.map Fil.enc)[i]?=some fl[i].enc:=by rw[List.getElem?_map,List.getElem?_eq_getElem hi];rfl
  have hR':=hR (i+1) (by omega) (by omega)
  rw[crL_at fl keep i hi] at hR';have hlen:(((crL fl keep).take i).map Fil.enc).length=((crL fl keep).take i).length:=by simp
  have hl2:((crL fl keep).take i).length<=1000000:=by simp;omega
  have hx:=hin _ (List.getElem_mem hi);have hd:=Nat.le_trans (data_le fl i hi) hu;have hcn:=crN_in hx keep[i]?;have e2:((crL fl keep).take i++[crF fl[i] keep[i]?]).map Fil.enc=((crL fl keep).take i).map Fil.enc++[[.s fl[i].name,.s (fl[i].data.take (fl[i].sure+crN fl[i] keep[i]?).toNat),.i .i64 (fl[i].sure+crN fl[i] keep[i]?)]]:=by rw[List.map_append];rfl
  have e3:((crL fl keep).take i++[crF fl[i] keep[i]?]).length=((crL fl keep).take i).length+1:=by rw[List.length_append];rfl
  rw[e2,e3] at hR';have hkl:(keep.map eI).length=keep.length:=by simp
  generalize ((crL fl keep).take i).length=n at *;generalize ((crL fl keep).take i).map Fil.enc=Q at *;clear e2 e3;generalize fl[i]=w at *;obtain⟨a,b,c⟩:=w;simp only[Fil.enc] at g1 hx hd hcn hR';by_cases ck:i<keep.length
  ·have hck:(i:Int)<(keep.length:Int):=by omega
   have g2:(keep.map eI)[i]?=some [.i .i64 keep[i]]:=by rw[List.getElem?_map,List.getElem?_eq_getElem ck];rfl
   rw[List.getElem?_eq_getElem ck] at hR' hcn;have hkk:=hki _ (List.getElem_mem ck);obtain⟨z,hz⟩:∃ z,z=crN ⟨a,b,c⟩ (some keep[i]):=⟨_,rfl⟩;rw[<- hz] at hR' hcn;have hz2:z=max 0 (min keep[i] ((b.length:Nat)-c)):=hz;clear hz;generalize keep[i]=y at *;have ht:(b.take (c+z).toNat).length=(c+z).toNat:=by simp;omega
   have hcz:(((c+z).toNat:Nat):Int)=c+z:=by omega
   by_cases m1:((b.length:Nat):Int)-c<y
   ·by_cases m2:(0:Int)<((b.length:Nat):Int)-c
    ·have m3:z=((b.length:Nat):Int)-c:=by omega
     rw[m3] at hR' ht hcz;(simp(disch:=first|decide|omega|(intros;exact Eq.trans rfl rfl)|simp only[puri]) only[wkf,a21_0,decide_eq_true hc,List.length_map,g1,hkl,decide_eq_true hck,g2,hlen,if_pos m1,if_pos m2,ht,hcz,go_sem,seval,dis])
     exact hR' _ _ hdM
    ·have m3:z=0:=by omega
     rw[m3] at hR' ht hcz;(simp(disch:=first|decide|omega|(intros;exact Eq.trans rfl rfl)|simp only[puri]) only[wkf,a21_0,decide_eq_true hc,List.length_map,g1,hkl,decide_eq_true hck,g2,hlen,if_pos m1,if_neg m2,ht,hcz,go_sem,seval,dis])
     exact hR' _ _ hdM
   ·by_cases m2:(0:Int)<y
    ·have m3:z=y:=by omega
     rw[m3] at hR' ht hcz;(simp(disch:=first|decide|omega|(intros;exact Eq.trans rfl rfl)|simp only[puri]) only[wkf,a21_0,decide_eq_true hc,List.length_map,g1,hkl,decide_eq_true hck,g2,hlen,if_neg m1,if_pos m2,ht,hcz,go_sem,seval,dis])
     exact hR' _ _ hdM
    ·have m3:z=0:=by omega
     rw[m3] at hR' ht hcz;(simp(disch:=first|decide|omega|(intros;exact Eq.trans rfl rfl)|simp only[puri]) only[wkf,a21_0,decide_eq_true hc,List.length_map,g1,hkl,decide_eq_true hck,g2,hlen,if_neg m1,if_neg m2,ht,hcz,go_sem,seval,dis])
     exact hR' _ _ hdM
  ·have hck:¬ (i:Int)<(keep.length:Int):=by omega
   rw[List.getElem?_eq_none (by omega)] at hR' hcn
   simp only[crN,Int.add_zero] at hR' hcn;have ht:(b.take c.toNat).length=c.toNat:=by simp;omega
   have hcz:((c.toNat:Nat):Int)=c:=by omega
   (simp(disch:=first|decide|omega|(intros;exact Eq.trans rfl rfl)|simp only[puri]) only[wkf,a21_0,decide_eq_true hc,List.length_map,g1,hkl,decide_eq_false hck,hlen,ht,hcz,Int.add_zero,go_sem,seval,dis])
   exact hR' _ _ hdM
 ·have hc:¬ (i:Int)<(fl.length:Int):=by omega
  have ht:(crL fl keep).take i=crL fl keep:=List.take_of_length_le (by omega)
  rw[ht];have htk:List.take (crL fl keep).length ((crL fl keep).map Fil.enc)=(crL fl keep).map Fil.enc:=List.take_of_length_le (by simp)
  have hln:((crL fl keep).map Fil.enc).length=(crL fl keep).length:=by simp
  rw[hZ];(simp(disch:=first|decide|omega|(intros;exact Eq.trans rfl rfl)|simp only[puri]) only[wkf,a21_0,a21,decide_eq_false hc,List.length_map,htk,hln,go_sem,seval,dis])
  try simp[trim]
theorem crL_cons (a:Fil) (l:List Fil) (keep:List Int):crL (a::l) keep=crF a keep[0]?::crL l keep.tail:=by
 unfold crL;rw[List.mapIdx_cons];congr 1
 congr 1
 funext i f
 cases keep with
 | nil=>simp
 | cons b r=>simp
theorem crL_fm:∀ (l:List Fil) (keep:List Int),inB l->∀ n,(fm l n=none∧fm (crL l keep) n=none)∨(∃ (x:Txt) (q:Int) (c:Nat),fm l n=some (x,q)∧fm (crL l keep) n=some (x.take c,((c:Nat):Int))∧q<=c∧c<=x.length)
 | [],keep,_,n=>.inl ⟨rfl,rfl⟩
 | a::l,keep,h,n=>by
  rw[crL_cons];by_cases e:a.name=n
  ·have h1:=h a (by simp)
   have h2:=crN_in h1 keep[0]?;refine .inr ⟨a.data,a.sure,(a.sure+crN a keep[0]?).toNat,by simp[fm,e],?_,by omega,by omega⟩
   have:(((a.sure+crN a keep[0]?).toNat:Nat):Int)=a.sure+crN a keep[0]?:=by omega
   rw[this];simp[fm,crF,e]
  ·have e1:fm (a::l) n=fm l n:=by simp[fm,e]
   have e2:fm (crF a keep[0]?::crL l keep.tail) n=fm (crL l keep.tail) n:=by simp[fm,crF,e]
   rw[e1,e2];exact crL_fm l keep.tail (fun x hx=>h x (by simp[hx])) n
theorem crL_names (l:List Fil) (keep:List Int):(crL l keep).map Fil.name=l.map Fil.name:=by
 apply List.ext_getElem
 ·simp[crL]
 ·intro i h1 h2;simp[crL,crF]
theorem crL_used:∀ (l:List Fil) (keep:List Int),usedF (crL l keep)<=usedF l
 | [],keep=>Nat.le_refl _
 | a::l,keep=>by
  rw[crL_cons];have h1:=crL_used l keep.tail;have e1:∀ (b:Fil) (m:List Fil),usedF (b::m)=b.data.length+usedF m:=fun b m=>by rw[<- used_one,<- used_app];rfl
  rw[e1,e1];have:(crF a keep[0]?).data.length<=a.data.length:=by simp[crF];omega
  omega
theorem crash_okN {k u:Nat} {d:Dsk} (h:okN k u d) (keep:List Int):okN k u (crashT d keep) :=
 ⟨by show(crL d.files keep).length<=k;rw[crL_len];exact h.len,srt_names (crL_names _ _) h.srt,⟨Int.le_refl _,by show(0:Int)<_;decide⟩,h.cap,Nat.le_trans (crL_used _ _) h.used⟩
theorem rowS_two (a b:List Rec):rowS (a++b)=rowS a++rowS b:=List.flatMap_append
theorem endR_mono (l:List Rec) {a b:Nat} (h:a<=b):endR l a<=endR l b:=by
 unfold endR;have:l.take b=l.take a++(l.take b).drop a:=by
  conv=>lhs;rw[<- List.take_append_drop a (l.take b)]
  rw[List.take_take,Nat.min_eq_left h]
 rw[this,rowS_two,List.length_append];omega
theorem whole_at (l:List Rec) (c:Nat):∀ m,m<=l.length->∃ w,w<=l.length∧endR l w<=c∧(w<l.length->c<endR l (w+1))∨(endR l m<=c∧w=m∧m<=l.length)
 | 0,_=>⟨0,.inr ⟨by simp[endR,rowS],rfl,Nat.zero_le _⟩⟩
 | m+1,h=>by
  obtain⟨w,h1|⟨h1,rfl,h2⟩⟩:=whole_at l c m (by omega)
  ·exact⟨w,.inl h1⟩
  ·by_cases h3:endR l (w+1)<=c
   ·exact⟨w+1,.inr ⟨h3,rfl,h⟩⟩
   ·exact⟨w,.inl ⟨by omega,h1,fun _=>by omega⟩⟩
theorem whole_ex (l:List Rec) (c:Nat):∃ w,w<=l.length∧endR l w<=c∧(w<l.length->c<endR l (w+1)):=by
 obtain⟨w,h|⟨h1,rfl,h2⟩⟩:=whole_at l c l.length (Nat.le_refl _)
 ·exact⟨w,h⟩
 ·exact⟨l.length,Nat.le_refl _,h1,fun h=>by omega⟩
theorem scan_crash (l:List Rec) (b:Int) (hb:offN b=true) (hw:∀ r∈l,whyF r=0) (hn:numB b l) (c m:Nat) (hc:c<=(rowS l).length) (hm:endR l m<=c) (hml:m<=l.length) :
  ∃ w,m<=w∧w<=l.length∧endR l w<=c∧(scanS ((rowS l).take c) b).1.length=w∧(scanS ((rowS l).take c) b).2.1=endR l w:=by
 obtain⟨w,h1,h2,h3⟩:=whole_ex l c;have hcut:=scan_cut l b hb hw hn w c h1 h2 (fun h=>by rw[h];unfold endR;rw[List.take_length];exact hc) h3
 refine⟨w,?_,h1,h2,?_,by rw[hcut.2]⟩
 ·rcases Nat.lt_or_ge w m with h|h
  ·have:=endR_mono l (show w+1<=m by omega)
   have:=h3 (by omega)
   omega
  ·exact h
 ·have:=congrArg List.length hcut.1;simp at this;omega
theorem segT_full {d:Dsk} (hs:srt d.files) {p:SR} (hb:offN p.1.base=true) (hf:∃ q,fm d.files (fileN p.1.base)=some (rowS p.2,q)) (hw:∀ r∈p.2,whyF r=0) (hn:numB p.1.base p.2) (h1:p.1.n=p.2.length) (h2:p.1.size=(rowS p.2).length) :
  segT d p.1.base=(p.1,0)∧(readF d.files (fileN p.1.base)).2=0:=by
 obtain⟨q,hf⟩:=hf;have hr:readF d.files (fileN p.1.base)=(rowS p.2,0):=by rw[fm_read hs,hf]
 have hsc:=scan_row p.2 p.1.base hb hw hn;have hl:(scanS (rowS p.2) p.1.base).1.length=p.2.length:=by
  have:=congrArg List.length hsc.1;simpa using this
 unfold segT;rw[hr];simp only[hl,hsc.2];refine⟨?_,trivial⟩;obtain⟨⟨a,b,c⟩,rs⟩:=p;simp only at h1 h2 ⊢;rw[h1,h2]
theorem segsT_chain {d:Dsk} {g:Int} {z:Seg} (hz:(readF d.files (fileN g)).2=0) (hg:(segT d g).1=z):∀ (M:List SR) (b:Int),chainM b M g->(∀ p∈M,segT d p.1.base=(p.1,0)∧(readF d.files (fileN p.1.base)).2=0)->(∀ p∈M,p.1.n=p.2.length) ->
  segsT d (M.map (fun p=>p.1.base)++[g])=some (M.map (·.1)++[z])
 | [],b,_,_,_=>by
  rw[List.map_nil,List.nil_append,segsT_cons,if_neg (by simp[hz])]
  simp[hg]
 | p::M,b,hc,hp,hn=>by
  have h1:=hp p (by simp)
  have ih:=segsT_chain hz hg M (b+p.2.length) hc.2.2 (fun q hq=>hp q (by simp[hq])) (fun q hq=>hn q (by simp[hq]))
  have hpn:=hn p (by simp)
  have hnx:∃ r,M.map (fun p=>p.1.base)++[g]=(b+p.2.length)::r:=by
   have h2:=hc.2.2;cases M with
   | nil=>exact⟨[],by simp[chainM] at h2 ⊢;omega⟩
   | cons q r=>exact⟨r.map (fun p=>p.1.base)++[g],by simp[chainM] at h2 ⊢;omega⟩
  obtain⟨r,hr⟩:=hnx;rw[List.map_cons,List.cons_append,segsT_cons,if_neg (by simp[h1.2]),hr]
  simp only[];rw[if_neg (by rw[h1.1,hc.1];simp[hpn]),<- hr,ih,h1.1]
  try rfl
variable {k u:Nat} {f:Int} {S:Txt} {l0:List Pr} {s:Sto} {M:List SR} {g:Seg} {l:List Rec}
theorem cut_out {d:Dsk} (hs:srt d.files) {n:Txt} {v:Txt × Int} (h:fm d.files n=some v) {e:Int} (he:0<=e∧e<=((v.1.length:Nat):Int)):Out d (chgF d (cutR d.files n e)) [] (up (fm d.files) n (some (v.1.take e.toNat,if e<v.2 then e else v.2))) none:=by
 have hf:hasF d.files n=true:=by rw[fm_has hs,h];rfl
 have hr:readF d.files n=(v.1,0):=by rw[fm_read hs,h]
 have e2:cutR d.files n e=(updF d.files (posF d.files n) (fun f=>{ f with data:=f.data.take e.toNat,sure:=if e<f.sure then e else f.sure }),0):=by
  unfold cutR;rw[if_pos hf,hr,if_neg (by simp only[];omega)]
 have hu:=upd_fm hs h (fun f=>{ f with data:=f.data.take e.toNat,sure:=if e<f.sure then e else f.sure }) (fun _=>rfl)
 rw[e2];exact chg_out hs rfl hu.1 hu.2
theorem Out.done {d:Dsk} {r:Dsk × Int} {X:List Txt} {G:FM} (h:Out d r X G none) (ha:d.armed=false) (hd:d.down=false):r.2=0∧r.1.down=false∧fm r.1.files=G∧r.1.cap=d.cap∧r.1.armed=false∧r.1.left=d.left∧srt r.1.files:=by
 have hi:=h.1.idle ha hd;rcases h.2.2 with⟨h1,h2,h3⟩|⟨_,hc,_⟩|⟨_,h2,_⟩
 ·exact⟨h1,h2,h3,h.1.cap,h.1.armed.trans ha,hi.2,h.2.1⟩
 ·cases hc
 ·rw[hi.1] at h2;cases h2
theorem srt_nodup {l:List Fil} (h:srt l):(namesF l).Nodup:=by
 unfold namesF List.Nodup;rw[List.pairwise_map];refine List.Pairwise.imp ?_ h;intro a b hab e;rw[e,bl_irr] at hab;cases hab
theorem keep_mem {use:List Txt} {n:Txt}:keepF use n=true↔n∈use:=by
 unfold keepF;rw[List.any_eq_true];constructor
 ·rintro⟨x,hx,e⟩;have:x=n:=by simpa using e
  exact this ▸ hx
 ·intro h;exact⟨n,h,by simp⟩
theorem sweep_done {d:Dsk} (hs:srt d.files) (use:List Txt) (ha:d.armed=false) (hd:d.down=false) :
  (sweepT use d).2=0∧(sweepT use d).1.down=false∧(∀ n,fm (sweepT use d).1.files n=if n∈use then fm d.files n else none)∧(sweepT use d).1.cap=d.cap∧(sweepT use d).1.armed=false∧(sweepT use d).1.left=d.left∧srt (sweepT use d).1.files:=by
 have hmem:∀ n,n∈namesF d.files↔fm d.files n≠none:=by
  intro n;rw[Ne,fm_none];unfold namesF;rw[List.mem_map];constructor
  ·rintro⟨x,hx,e⟩ h;exact h x hx e
  ·intro h;have ⟨x,hx⟩:∃ x∈d.files,x.name=n:=by
    apply Classical.byContradiction;intro hc;exact h fun x hx e=>hc ⟨x,hx,e⟩
   exact⟨x,hx⟩
 have hO:=goP_out ((namesF d.files).filter fun n => !keepF use n) d hs ((srt_nodup hs).sublist List.filter_sublist) hd (fun n hn=>(hmem n).1 (List.mem_filter.1 hn).1)
 have h:=hO.done ha hd;refine⟨h.1,h.2.1,fun n=>?_,h.2.2.2⟩
 have h3:fm (sweepT use d).1.files=_:=h.2.2.1;rw[h3];unfold rmv;by_cases c:n∈use
 ·rw[if_pos c,if_neg];intro hn;have:=(List.mem_filter.1 hn).2;rw[keep_mem.2 c] at this;cases this
 ·rw[if_neg c];by_cases c2:fm d.files n=none
  ·rw[c2];split <;> rfl
  ·rw[if_pos];refine List.mem_filter.2 ⟨(hmem n).2 c2,?_⟩;cases hk:keepF use n with
   | false=>rfl
   | true=>exact absurd (keep_mem.1 hk) c
theorem mend_done {d:Dsk} (hs:srt d.files) (ha:d.armed=false) (hd:d.down=false) (z:Seg) {x:Txt} {q:Int} (h:fm d.files (fileN z.base)=some (x,q)) (hz:0<=z.size∧z.size<=((x.length:Nat):Int)) :
  (mendT d z).2=0∧(mendT d z).1.down=false∧fm (mendT d z).1.files=up (fm d.files) (fileN z.base) (some (x.take z.size.toNat,z.size))∧(mendT d z).1.cap=d.cap∧(mendT d z).1.armed=false∧(mendT d z).1.left=d.left∧srt (mendT d z).1.files:=by
 have hr:(readF d.files (fileN z.base)).1=x:=by rw[fm_read hs,h]
 unfold mendT;rw[hr];have hl:(((x.take z.size.toNat).length:Nat):Int)=z.size:=by rw[List.length_take];omega
 by_cases c:z.size<((x.length:Nat):Int)
 ·rw[if_pos c];have h1:=(cut_out hs h hz).done ha hd;generalize chgF d (cutR d.files (fileN z.base) z.size)=r at *;obtain⟨e1,e2,e3,e4,e5,e6,e7⟩:=h1;rw[pair_eq e1];have h2:=(syn_out e7 (n:=fileN z.base) (v:=(x.take z.size.toNat,if z.size<q then z.size else q)) (by rw[e3,up_at])).done e5 e2
  have e0:synS (fileN z.base) (r.1,0)=chgF r.1 (synR r.1.files (fileN z.base)):=stp_ye _ _;rw[e0];refine⟨h2.1,h2.2.1,?_,h2.2.2.2.1.trans e4,h2.2.2.2.2.1,h2.2.2.2.2.2.1.trans e6,h2.2.2.2.2.2.2⟩;rw[h2.2.2.1,e3,up_up,hl]
 ·rw[if_neg c];have h2:=(syn_out hs h).done ha hd;have e0:synS (fileN z.base) (d,0)=chgF d (synR d.files (fileN z.base)):=stp_ye _ _;rw[e0];refine⟨h2.1,h2.2.1,?_,h2.2.2.2⟩;have hx:x.take z.size.toNat=x:=List.take_of_length_le (by omega)
  have hzl:z.size=((x.length:Nat):Int):=by omega
  rw[h2.2.2.1,hx,hzl]
theorem headD_of {l:List Int} {a:Int} (h:l.head?=some a):l.headD 0=a:=by
 cases l with
 | nil=>cases h
 | cons b r=>exact Option.some.inj h
theorem W.crash (ho:okS k u s) (h:W f S l0 s M g l) (hin:inB s.disk.files) (keep:List Int) :
  ∃ w,(s.sure-g.base).toNat<=w∧w<=l.length∧(openT (crashT s.disk keep)).2=0∧W f S l0 (openT (crashT s.disk keep)).1 M ⟨g.base,w,endR l w⟩ (l.take w) ∧
   (openT (crashT s.disk keep)).1.disk.down=false∧(openT (crashT s.disk keep)).1.disk.armed=false∧(openT (crashT s.disk keep)).1.disk.cap=s.disk.cap∧(openT (crashT s.disk keep)).1.disk.left=0 ∧
   (openT (crashT s.disk keep)).1.next=g.base+w∧(openT (crashT s.disk keep)).1.sure=g.base+w∧(openT (crashT s.disk keep)).1.ver=s.ver∧okS k u (openT (crashT s.disk keep)).1∧(∀ m,decM (readF (crashT s.disk keep).files [109]).1=some m->m.ok):=by
 have hks:=crash_okN ho.dsk keep;have hfm:=crL_fm s.disk.files keep hin;have hs:=hks.srt;have hfs:(crashT s.disk keep).files=crL s.disk.files keep:=rfl;rw[<- hfs] at hfm;have hdn:(crashT s.disk keep).down=false:=rfl;have har:(crashT s.disk keep).armed=false:=rfl;have hcp:(crashT s.disk keep).cap=s.disk.cap:=rfl;have hlf:(crashT s.disk keep).left=0:=rfl;clear hfs;generalize crashT s.disk keep=d at *;have hwhole:∀ n x,fm s.disk.files n=some (x,((x.length:Nat):Int))->fm d.files n=some (x,((x.length:Nat):Int)):=by
  intro n x hx;rcases hfm n with⟨h1,_⟩|⟨y,q,c,h1,h2,h3,h4⟩
  ·rw[hx] at h1;cases h1
  ·rw[hx] at h1;cases h1;have hc:c=x.length:=by omega
   subst hc;rw[List.take_length] at h2;exact h2
 have hmb:=manB_t h.right;have hmo:s.man.ok:=⟨by have:=hmb.2.1.2;omega,ho.sum⟩
 have hman:=hwhole _ _ h.man;have hrd:readF d.files [109]=(manText s.man,0):=by rw[fm_read hs,hman]
 have hdec:decM (manText s.man)=some s.man:=dec_text h.right hmo;have hhead:s.man.segs.headD 0=f:=headD_of h.head;have hf0:0<=f:=by
  have:=h.man_inc.2 f (by have:=h.head;exact List.mem_of_mem_head? this)
  omega
 have hbase:∀ p∈M++[(g,l)],offN p.1.base=true:=by
  intro p hp;have:=(ho.seg _ (h.mem p hp)).1;unfold offN;simp;exact this
 have hsnap:snapOk d s.man=true:=by
  rw[snapOk_iff,hhead];intro hf;rcases h.snp with⟨h1,_⟩|⟨_,h2,h3,h4,h5⟩
  ·omega
  ·have:=hwhole _ _ h2;have hr:readF d.files (snapN f)=(S,0):=by rw[fm_read hs,this]
   rw[hr];exact⟨rfl,h4.symm,h5.symm⟩
 obtain⟨q0,hl1,hl2,hl3⟩:=h.last;have hsu:=h.inv.sure;have hnx:=h.inv.next;have hlo:=h.lo;have hfile:=h.inv.file (g,l) (by simp)
 obtain⟨c,hc1,hc2,hc3⟩:∃ c:Nat,fm d.files (fileN g.base)=some ((rowS l).take c,((c:Nat):Int))∧q0<=c∧c<=(rowS l).length:=by
  rcases hfm (fileN g.base) with⟨h1,_⟩|⟨y,q,c,h1,h2,h3,h4⟩
  ·rw[hl1] at h1;cases h1
  ·rw[hl1] at h1;cases h1;exact⟨c,h2,by omega,h4⟩
 have hrl:readF d.files (fileN g.base)=((rowS l).take c,0):=by rw[fm_read hs,hc1]
 obtain⟨w,hw1,hw2,hw3,hw4,hw5⟩:=scan_crash l g.base (hbase (g,l) (by simp)) hfile.why hfile.num c (s.sure-g.base).toNat hc3 (Nat.le_trans hl2 hc2) (by omega)
 have hsegT:(segT d g.base).1=⟨g.base,w,endR l w⟩:=by
  unfold segT;rw[hrl];simp only[hw4,hw5]
 have hms:s.man.segs=M.map (fun p=>p.1.base)++[g.base]:=by
  show s.segs.map Seg.base=_;rw[h.inv.segs];simp
 have hsegs:segsT d s.man.segs=some (M.map (·.1)++[⟨g.base,w,endR l w⟩]):=by
  rw[hms];refine segsT_chain (by rw[hrl]) hsegT M f h.inv.chain (fun p hp=>?_) (fun p hp=>(h.inv.file p (List.mem_append_left _ hp)).n)
  have hp2:=h.inv.file p (List.mem_append_left _ hp);exact segT_full hs (hbase p (List.mem_append_left _ hp)) ⟨_,hwhole _ _ (h.full p hp)⟩ hp2.why hp2.num hp2.n hp2.size
 have hlast:(M.map (·.1)++[(⟨g.base,w,endR l w⟩:Seg)]).getLastD ⟨0,0,0⟩=⟨g.base,w,endR l w⟩:=List.getLastD_concat;have hsw:=sweep_done hs (useN s.man) har hdn;have huse:∀ n,n∈useN s.man↔(n=[109]∨(∃ p∈M++[(g,l)],n=fileN p.1.base)∨(0<f∧n=snapN f)):=by
  intro n;unfold useN useS;rw[hhead,hms];constructor
  ·intro hn;rcases List.mem_append.1 hn with hn|hn
   ·rcases List.mem_cons.1 hn with rfl|hn
    ·exact .inl rfl
    ·split at hn
     ·rename_i hf;exact .inr (.inr ⟨hf,List.mem_singleton.1 hn⟩)
     ·cases hn
   ·obtain⟨b,hb,rfl⟩:=List.mem_map.1 hn;refine .inr (.inl ?_);rcases List.mem_append.1 hb with hb|hb
    ·obtain⟨p,hp,rfl⟩:=List.mem_map.1 hb;exact⟨p,List.mem_append_left _ hp,rfl⟩
    ·rw[List.mem_singleton.1 hb];exact⟨(g,l),by simp,rfl⟩
  ·rintro(rfl|⟨p,hp,rfl⟩|⟨hf,rfl⟩)
   ·simp
   ·refine List.mem_append_right _ (List.mem_map_of_mem ?_);rcases List.mem_append.1 hp with hp|hp
    ·exact List.mem_append_left _ (List.mem_map_of_mem (f:=fun p:SR=>p.1.base) hp)
    ·rw[List.mem_singleton.1 hp];simp
   ·rw[if_pos hf];simp
 have hgu:fileN g.base∈useN s.man:=(huse _).2 (.inr (.inl ⟨(g,l),by simp,rfl⟩))
 have hel:endR l w<=c:=hw3;have hcl:((rowS l).take c).length=c:=by rw[List.length_take];omega
 have hmd:=mend_done hsw.2.2.2.2.2.2 hsw.2.2.2.2.1 hsw.2.1 ⟨g.base,w,endR l w⟩ (x:=(rowS l).take c) (q:=c) (by rw[hsw.2.2.1,if_pos hgu];exact hc1) (by simp only[];omega)
 have hop:openT d=(⟨(mendT (sweepT (useN s.man) d).1 ⟨g.base,w,endR l w⟩).1,s.man.ver,M.map (·.1)++[⟨g.base,w,endR l w⟩],g.base+w,g.base+w,s.man.size,s.man.sum⟩,0):=by
  unfold openT;rw[if_neg (by simp[hdn]),hrd]
  simp only[hdec];rw[if_neg (by simp)]
  unfold openR;rw[if_pos hsnap,hsegs];simp only;unfold openM;rw[if_neg (by simp[hsw.1]),hlast,if_neg (by simp[hmd.1])]
 rw[hop];generalize hD:(mendT (sweepT (useN s.man) d).1 ⟨g.base,w,endR l w⟩).1=D' at *;obtain⟨m1,m2,m3,m4,m5,m6,m7⟩:=hmd;have hrow:((rowS l).take c).take (((endR l w:Nat):Int)).toNat=rowS (l.take w):=by
  have e:rowS l=rowS (l.take w)++rowS (l.drop w):=by rw[<- rowS_two,List.take_append_drop]
  rw[Int.toNat_natCast,List.take_take,Nat.min_eq_left hel];rw[e];exact List.take_left' rfl
 simp only[hrow] at m3;have hfl:fm D'.files (fileN g.base)=some (rowS (l.take w),(((rowS (l.take w)).length:Nat):Int)):=by rw[m3,up_at];rfl
 have hoth:∀ n,n∈useN s.man->n≠fileN g.base->fm D'.files n=fm d.files n:=by
  intro n hn hne;rw[m3,up_ne _ _ hne,hsw.2.2.1,if_pos hn]
 have hMd:∀ p∈M,fileN p.1.base≠fileN g.base:=by
  intro p hp e;have:=bases_lt h.inv.chain p hp;have h1:=(ho.seg _ (h.mem p (List.mem_append_left _ hp))).1;have h2:=(ho.seg _ (h.mem (g,l) (by simp))).1
  have:p.1.base=g.base:=fileN_inj h1 h2 e;omega
 have hMf:∀ p∈M,fm D'.files (fileN p.1.base)=some (rowS p.2,(((rowS p.2).length:Nat):Int)):=by
  intro p hp;rw[hoth _ ((huse _).2 (.inr (.inl ⟨p,List.mem_append_left _ hp,rfl⟩))) (hMd p hp)];exact hwhole _ _ (h.full p hp)
 have hman2:(⟨D',s.man.ver,M.map (·.1)++[⟨g.base,w,endR l w⟩],g.base+w,g.base+w,s.man.size,s.man.sum⟩:Sto).man=s.man:=by
  show(⟨s.ver,(M.map (·.1)++[(⟨g.base,w,endR l w⟩:Seg)]).map Seg.base,s.size,s.sum⟩:Man)=⟨s.ver,s.segs.map Seg.base,s.size,s.sum⟩;rw[h.inv.segs];simp
 have hgb:=(ho.seg _ (h.mem (g,l) (by simp))).1
 have hlw:(l.take w).length=w:=by rw[List.length_take];omega
 refine⟨w,hw1,hw2,rfl,⟨⟨rfl,fun p hp=>?_,h.inv.chain,by show g.base+(w:Int)=g.base+((l.take w).length:Nat);rw[hlw],by show 0<=g.base+(w:Int)∧g.base+(w:Int)<=g.base+(w:Int);omega⟩,?_,?_,by rw[hman2];exact h.right,hMf,⟨(rowS (l.take w)).length,hfl,?_,Nat.le_refl _⟩,by show g.base<=g.base+(w:Int);omega,fun _ n hn=>?_⟩,m2,m5,?_,?_,rfl,rfl,rfl,⟨?_,?_,fun a ha=>?_,?_,ho.ver,ho.sum⟩,fun m hm=>?_⟩
 ·rcases List.mem_append.1 hp with hp|hp
  ·have hp2:=h.inv.file p (List.mem_append_left _ hp);exact⟨(fm_hasD m7 _ _).2 ⟨_,hMf p hp⟩,hp2.why,hp2.num,hp2.n,hp2.size⟩
  ·rw[List.mem_singleton.1 hp];exact⟨(fm_hasD m7 _ _).2 ⟨_,hfl⟩,fun r hr=>hfile.why r (List.mem_of_mem_take hr),numB_take w hfile.num,by show(w:Int)=((l.take w).length:Nat);rw[hlw],rfl⟩
 ·rcases h.snp with h1|⟨h1,h2,h3⟩
  ·exact .inl h1
  ·refine .inr ⟨h1,?_,h3⟩;show fm D'.files _=_;rw[hoth _ ((huse _).2 (.inr (.inr ⟨h1,rfl⟩))) (snap_file _ _)];exact hwhole _ _ h2
 ·rw[hman2];show fm D'.files _=_;rw[hoth _ ((huse _).2 (.inl rfl)) (Ne.symm (n109 _ (by rw[fileN_len];decide)))]
  exact hman
 ·show(rowS ((l.take w).take _)).length<=_;have:(l.take w).take (g.base+(w:Int)-g.base).toNat=l.take w:=List.take_of_length_le (by omega)
  show(rowS ((l.take w).take (g.base+(w:Int)-g.base).toNat)).length<=_;rw[this];exact Nat.le_refl _
 ·have hn2:fm D'.files n≠none:=hn;have hnu:n∈useN s.man:=by
   apply Classical.byContradiction;intro hc;have:n≠fileN g.base:=fun e=>hc (e ▸ hgu)
   rw[m3,up_ne _ _ this,hsw.2.2.1,if_neg hc] at hn2;exact hn2 rfl
  rcases(huse n).1 hnu with e|⟨p,hp,e⟩|e
  ·exact .inl e
  ·refine .inr (.inl ?_);rcases List.mem_append.1 hp with hp|hp
   ·exact⟨p.1,List.mem_append_left _ (List.mem_map_of_mem hp),e⟩
   ·rw[List.mem_singleton.1 hp] at e;exact⟨⟨g.base,w,endR l w⟩,by show _∈_++[_];simp,e⟩
  ·exact .inr (.inr e)
 ·exact m4.trans (hsw.2.2.2.1.trans hcp)
 ·exact m6.trans (hsw.2.2.2.2.2.1.trans hlf)
 ·have:=mend_ok (sweep_ok hks (useN s.man)) ⟨g.base,w,endR l w⟩;rw[hD] at this;exact this
 ·show 1<=(M.map (fun p:SR=>p.1)++[(⟨g.base,w,endR l w⟩:Seg)]).length∧(M.map (fun p:SR=>p.1)++[(⟨g.base,w,endR l w⟩:Seg)]).length<=64
  have:=ho.len;rw[h.inv.segs] at this;simpa using this
 ·have ha2:a∈M.map (·.1)++[(⟨g.base,w,endR l w⟩:Seg)]:=ha;rcases List.mem_append.1 ha2 with ha2|ha2
  ·exact ho.seg a (by rw[h.inv.segs];exact List.mem_append_left _ ha2)
  ·rw[List.mem_singleton.1 ha2];have h3:(0<=g.n∧g.n<=u)∧(0<=g.size∧g.size<=u):=(ho.seg _ (h.mem (g,l) (by simp))).2
   have h4:g.n=((l.length:Nat):Int):=hfile.n;have h5:g.size=(((rowS l).length:Nat):Int):=hfile.size;refine⟨hgb,⟨?_,?_⟩,?_,?_⟩ <;> simp only[] <;> omega
 ·show 0<=g.base+(w:Int)∧g.base+(w:Int)<=_;have:=ho.next;have hgb2:0<=g.base:=hgb.1;omega
 ·rw[hrd,hdec] at hm;cases hm;exact hmo
theorem WR.crash {R:List Rec} (ho:okS k u s) (h:WR f S l0 s R) (hin:inB s.disk.files) (keep:List Int) :
  ∃ j,(s.sure-f).toNat<=j∧j<=R.length∧(openT (crashT s.disk keep)).2=0∧WR f S l0 (openT (crashT s.disk keep)).1 (R.take j) ∧
   (openT (crashT s.disk keep)).1.disk.down=false∧(openT (crashT s.disk keep)).1.disk.armed=false∧(openT (crashT s.disk keep)).1.disk.cap=s.disk.cap∧(openT (crashT s.disk keep)).1.disk.left=0 ∧
   (openT (crashT s.disk keep)).1.next=f+j∧(openT (crashT s.disk keep)).1.sure=f+j∧(openT (crashT s.disk keep)).1.ver=s.ver∧okS k u (openT (crashT s.disk keep)).1∧(∀ m,decM (readF (crashT s.disk keep).files [109]).1=some m->m.ok):=by
 obtain⟨M,g,l,h,rfl⟩:=h;obtain⟨w,h1,h2,h3,h4,h5,h6,h7,h8,h9,h10,h11⟩:=h.crash ho hin keep;have hcl:=chain_len _ _ _ h.inv.chain;refine⟨(recsM M).length+w,by omega,by rw[recsM_app,recsM_one,List.length_append];simp only[];omega,h3,⟨M,_,_,h4,?_⟩,h5,h6,h7,h8,by rw[h9];omega,by rw[h10];omega,h11⟩
 rw[recsM_app,recsM_one,recsM_app,recsM_one,List.take_append,List.take_of_length_le (Nat.le_add_right _ _),Nat.add_sub_cancel_left]
end Go.Proofs.YthlnpioogbmogaaGreat
