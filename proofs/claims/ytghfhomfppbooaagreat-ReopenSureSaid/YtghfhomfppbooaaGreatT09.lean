import Derived.Test.YtghfhomfppbooaaGreatT08
import Derived.Test.YtghfhomfppbooaaGreatT07
set_option linter.unusedSimpArgs false
set_option linter.unusedVariables false
namespace Go.Proofs.YtghfhomfppbooaaGreat
open Go.Vi
variable {k u:Nat} {f:Int} {S:Txt} {l0:List Pr} {s:Sto} {M:List SR} {g:Seg} {l:List Rec}
theorem cut_out {d:Dsk} (hs:srt d.files) {n:Txt} {v:Txt × Int} (h:fm d.files n=some v) {e:Int} (he:0<=e∧e<=((v.1.length:Nat):Int)):Out d (chgF d (cutR d.files n e)) [] (up (fm d.files) n (some (v.1.take e.toNat,if e<v.2 then e else v.2))) none:=by
 have hf:hasF d.files n=true:=by rw[fm_has hs,h];rfl
 have hr:readF d.files n=(v.1,0):=by rw[fm_read hs,h]
 have e2:cutR d.files n e=(updF d.files (posF d.files n) (fun f=>{ f with data:=f.data.take e.toNat,sure:=if e<f.sure then e else f.sure }),0):=by
  unfold cutR;rw[if_pos hf,hr,if_neg (by simp only[];omega)]
 have hu:=upd_fm hs h (fun f=>{ f with data:=f.data.take e.toNat,sure:=if e<f.sure then e else f.sure }) (fun _=>rfl)
 rw[e2];exact chg_out hs rfl hu.1 hu.2
theorem Out.done {d:Dsk} {r:Dsk × Int} {X:List Txt} {G:FM} (h:Out d r X G none) (ha:d.armed=false) (hd:d.down=false):r.2=0∧r.1.down=false∧fm r.1.files=G∧r.1.cap=d.cap∧r.1.armed=false∧r.1.left=d.left∧srt r.1.files:=by
 have hi:=h.1.idle ha hd;rcases h.2.2 with⟨h1,h2,h3⟩|⟨_,hc,_⟩|⟨_,h2,_⟩
 ·exact⟨h1,h2,h3,h.1.cap,h.1.armed.trans ha,hi.2,h.2.1⟩
 ·cases hc
 ·rw[hi.1] at h2;cases h2
theorem srt_nodup {l:List Fil} (h:srt l):(namesF l).Nodup:=by
 unfold namesF List.Nodup;rw[List.pairwise_map];refine List.Pairwise.imp ?_ h;intro a b hab e;rw[e,bl_irr] at hab;cases hab
theorem keep_mem {use:List Txt} {n:Txt}:keepF use n=true↔n∈use:=by
 unfold keepF;rw[List.any_eq_true];constructor
 ·rintro⟨x,hx,e⟩;have:x=n:=by simpa using e
  exact this ▸ hx
 ·intro h;exact⟨n,h,by simp⟩
theorem sweep_done {d:Dsk} (hs:srt d.files) (use:List Txt) (ha:d.armed=false) (hd:d.down=false) :
  (sweepT use d).2=0∧(sweepT use d).1.down=false∧(∀ n,fm (sweepT use d).1.files n=if n∈use then fm d.files n else none)∧(sweepT use d).1.cap=d.cap∧(sweepT use d).1.armed=false∧(sweepT use d).1.left=d.left∧srt (sweepT use d).1.files:=by
 have hmem:∀ n,n∈namesF d.files↔fm d.files n≠none:=by
  intro n;rw[Ne,fm_none];unfold namesF;rw[List.mem_map];constructor
  ·rintro⟨x,hx,e⟩ h;exact h x hx e
  ·intro h;have ⟨x,hx⟩:∃ x∈d.files,x.name=n:=by
    apply Classical.byContradiction;intro hc;exact h fun x hx e=>hc ⟨x,hx,e⟩
   exact⟨x,hx⟩
 have hO:=goP_out ((namesF d.files).filter fun n => !keepF use n) d hs ((srt_nodup hs).sublist List.filter_sublist) hd (fun n hn=>(hmem n).1 (List.mem_filter.1 hn).1)
 have h:=hO.done ha hd;refine⟨h.1,h.2.1,fun n=>?_,h.2.2.2⟩
 have h3:fm (sweepT use d).1.files=_:=h.2.2.1;rw[h3];unfold rmv;by_cases c:n∈use
 ·rw[if_pos c,if_neg];intro hn;have:=(List.mem_filter.1 hn).2;rw[keep_mem.2 c] at this;cases this
 ·rw[if_neg c];by_cases c2:fm d.files n=none
  ·rw[c2];split <;> rfl
  ·rw[if_pos];refine List.mem_filter.2 ⟨(hmem n).2 c2,?_⟩;cases hk:keepF use n with
   | false=>rfl
   | true=>exact absurd (keep_mem.1 hk) c
theorem mend_done {d:Dsk} (hs:srt d.files) (ha:d.armed=false) (hd:d.down=false) (z:Seg) {x:Txt} {q:Int} (h:fm d.files (fileN z.base)=some (x,q)) (hz:0<=z.size∧z.size<=((x.length:Nat):Int)) :
  (mendT d z).2=0∧(mendT d z).1.down=false∧fm (mendT d z).1.files=up (fm d.files) (fileN z.base) (some (x.take z.size.toNat,z.size))∧(mendT d z).1.cap=d.cap∧(mendT d z).1.armed=false∧(mendT d z).1.left=d.left∧srt (mendT d z).1.files:=by
 have hr:(readF d.files (fileN z.base)).1=x:=by rw[fm_read hs,h]
 unfold mendT;rw[hr];have hl:(((x.take z.size.toNat).length:Nat):Int)=z.size:=by rw[List.length_take];omega
 by_cases c:z.size<((x.length:Nat):Int)
 ·rw[if_pos c];have h1:=(cut_out hs h hz).done ha hd;generalize chgF d (cutR d.files (fileN z.base) z.size)=r at *;obtain⟨e1,e2,e3,e4,e5,e6,e7⟩:=h1;rw[pair_eq e1];have h2:=(syn_out e7 (n:=fileN z.base) (v:=(x.take z.size.toNat,if z.size<q then z.size else q)) (by rw[e3,up_at])).done e5 e2
  have e0:synS (fileN z.base) (r.1,0)=chgF r.1 (synR r.1.files (fileN z.base)):=stp_ye _ _;rw[e0];refine⟨h2.1,h2.2.1,?_,h2.2.2.2.1.trans e4,h2.2.2.2.2.1,h2.2.2.2.2.2.1.trans e6,h2.2.2.2.2.2.2⟩;rw[h2.2.2.1,e3,up_up,hl]
 ·rw[if_neg c];have h2:=(syn_out hs h).done ha hd;have e0:synS (fileN z.base) (d,0)=chgF d (synR d.files (fileN z.base)):=stp_ye _ _;rw[e0];refine⟨h2.1,h2.2.1,?_,h2.2.2.2⟩;have hx:x.take z.size.toNat=x:=List.take_of_length_le (by omega)
  have hzl:z.size=((x.length:Nat):Int):=by omega
  rw[h2.2.2.1,hx,hzl]
theorem headD_of {l:List Int} {a:Int} (h:l.head?=some a):l.headD 0=a:=by
 cases l with
 | nil=>cases h
 | cons b r=>exact Option.some.inj h
theorem W.torn (ho:okS k u s) (h:W f S l0 s M g l) (d:Dsk) (hks:okN k u d) (hdn:d.down=false) (har:d.armed=false) (hcp:d.cap=s.disk.cap) (hlf:d.left=0)
  (hfm:∀ n,rel f s n->∀ x q,fm s.disk.files n=some (x,q)->∃ c:Nat,fm d.files n=some (x.take c,((c:Nat):Int))∧q<=c∧c<=x.length) :
  ∃ w,(s.sure-g.base).toNat<=w∧w<=l.length∧(openT d).2=0∧W f S l0 (openT d).1 M ⟨g.base,w,endR l w⟩ (l.take w) ∧
   (openT d).1.disk.down=false∧(openT d).1.disk.armed=false∧(openT d).1.disk.cap=s.disk.cap∧(openT d).1.disk.left=0 ∧
   (openT d).1.next=g.base+w∧(openT d).1.sure=g.base+w∧(openT d).1.ver=s.ver∧okS k u (openT d).1∧(∀ m,decM (readF d.files [109]).1=some m->m.ok)∧w=(scanS (readF d.files (fileN g.base)).1 g.base).1.length∧(openT d).1.man=s.man∧((readF d.files [109]).2=0∧decM (readF d.files [109]).1=some s.man∧snapOk d s.man=true∧segsT d s.man.segs=some (M.map (·.1)++[⟨g.base,w,endR l w⟩])∧∀ n,n∈useN s.man↔rel f s n):=by
 have hs:=hks.srt;have hwhole:∀ n x,rel f s n->fm s.disk.files n=some (x,((x.length:Nat):Int))->fm d.files n=some (x,((x.length:Nat):Int)):=by
  intro n x hr hx;obtain⟨c,h2,h3,h4⟩:=hfm n hr x _ hx;have hc:c=x.length:=by omega
  subst hc;rw[List.take_length] at h2;exact h2
 have hrf:∀ p∈M++[(g,l)],rel f s (fileN p.1.base):=fun p hp=>.inr (.inl ⟨p.1,h.mem p hp,rfl⟩)
 have hmb:=manB_t h.right;have hmo:s.man.ok:=⟨by have:=hmb.2.1.2;omega,ho.sum⟩
 have hman:=hwhole _ _ (.inl rfl) h.man;have hrd:readF d.files [109]=(manText s.man,0):=by rw[fm_read hs,hman]
 have hdec:decM (manText s.man)=some s.man:=dec_text h.right hmo;have hhead:s.man.segs.headD 0=f:=headD_of h.head;have hf0:0<=f:=by
  have:=h.man_inc.2 f (by have:=h.head;exact List.mem_of_mem_head? this)
  omega
 have hbase:∀ p∈M++[(g,l)],offN p.1.base=true:=by
  intro p hp;have:=(ho.seg _ (h.mem p hp)).1;unfold offN;simp;exact this
 have hsnap:snapOk d s.man=true:=by
  rw[snapOk_iff,hhead];intro hf;rcases h.snp with⟨h1,_⟩|⟨_,h2,h3,h4,h5⟩
  ·omega
  ·have:=hwhole _ _ (.inr (.inr ⟨by assumption,rfl⟩)) h2
   have hr:readF d.files (snapN f)=(S,0):=by rw[fm_read hs,this]
   rw[hr];exact⟨rfl,h4.symm,h5.symm⟩
 obtain⟨q0,hl1,hl2,hl3⟩:=h.last;have hsu:=h.inv.sure;have hnx:=h.inv.next;have hlo:=h.lo;have hfile:=h.inv.file (g,l) (by simp)
 obtain⟨c,hc1,hc2,hc3⟩:∃ c:Nat,fm d.files (fileN g.base)=some ((rowS l).take c,((c:Nat):Int))∧q0<=c∧c<=(rowS l).length:=by
  obtain⟨c,h2,h3,h4⟩:=hfm _ (hrf (g,l) (by simp)) _ _ hl1
  exact⟨c,h2,by omega,h4⟩
 have hrl:readF d.files (fileN g.base)=((rowS l).take c,0):=by rw[fm_read hs,hc1]
 obtain⟨w,hw1,hw2,hw3,hw4,hw5⟩:=scan_crash l g.base (hbase (g,l) (by simp)) hfile.why hfile.num c (s.sure-g.base).toNat hc3 (Nat.le_trans hl2 hc2) (by omega)
 have hsegT:(segT d g.base).1=⟨g.base,w,endR l w⟩:=by
  unfold segT;rw[hrl];simp only[hw4,hw5]
 have hms:s.man.segs=M.map (fun p=>p.1.base)++[g.base]:=by
  show s.segs.map Seg.base=_;rw[h.inv.segs];simp
 have hsegs:segsT d s.man.segs=some (M.map (·.1)++[⟨g.base,w,endR l w⟩]):=by
  rw[hms];refine segsT_chain (by rw[hrl]) hsegT M f h.inv.chain (fun p hp=>?_) (fun p hp=>(h.inv.file p (List.mem_append_left _ hp)).n)
  have hp2:=h.inv.file p (List.mem_append_left _ hp);exact segT_full hs (hbase p (List.mem_append_left _ hp)) ⟨_,hwhole _ _ (hrf p (List.mem_append_left _ hp)) (h.full p hp)⟩ hp2.why hp2.num hp2.n hp2.size
 have hlast:(M.map (·.1)++[(⟨g.base,w,endR l w⟩:Seg)]).getLastD ⟨0,0,0⟩=⟨g.base,w,endR l w⟩:=List.getLastD_concat;have hsw:=sweep_done hs (useN s.man) har hdn;have huse:∀ n,n∈useN s.man↔(n=[109]∨(∃ p∈M++[(g,l)],n=fileN p.1.base)∨(0<f∧n=snapN f)):=by
  intro n;unfold useN useS;rw[hhead,hms];constructor
  ·intro hn;rcases List.mem_append.1 hn with hn|hn
   ·rcases List.mem_cons.1 hn with rfl|hn
    ·exact .inl rfl
    ·split at hn
     ·rename_i hf;exact .inr (.inr ⟨hf,List.mem_singleton.1 hn⟩)
     ·cases hn
   ·obtain⟨b,hb,rfl⟩:=List.mem_map.1 hn;refine .inr (.inl ?_);rcases List.mem_append.1 hb with hb|hb
    ·obtain⟨p,hp,rfl⟩:=List.mem_map.1 hb;exact⟨p,List.mem_append_left _ hp,rfl⟩
    ·rw[List.mem_singleton.1 hb];exact⟨(g,l),by simp,rfl⟩
  ·rintro(rfl|⟨p,hp,rfl⟩|⟨hf,rfl⟩)
   ·simp
   ·refine List.mem_append_right _ (List.mem_map_of_mem ?_);rcases List.mem_append.1 hp with hp|hp
    ·exact List.mem_append_left _ (List.mem_map_of_mem (f:=fun p:SR=>p.1.base) hp)
    ·rw[List.mem_singleton.1 hp];simp
   ·rw[if_pos hf];simp
 have hgu:fileN g.base∈useN s.man:=(huse _).2 (.inr (.inl ⟨(g,l),by simp,rfl⟩))
 have hel:endR l w<=c:=hw3;have hcl:((rowS l).take c).length=c:=by rw[List.length_take];omega
 have hmd:=mend_done hsw.2.2.2.2.2.2 hsw.2.2.2.2.1 hsw.2.1 ⟨g.base,w,endR l w⟩ (x:=(rowS l).take c) (q:=c) (by rw[hsw.2.2.1,if_pos hgu];exact hc1) (by simp only[];omega)
 have hop:openT d=(⟨(mendT (sweepT (useN s.man) d).1 ⟨g.base,w,endR l w⟩).1,s.man.ver,M.map (·.1)++[⟨g.base,w,endR l w⟩],g.base+w,g.base+w,s.man.size,s.man.sum⟩,0):=by
  unfold openT;rw[if_neg (by simp[hdn]),hrd]
  simp only[hdec];rw[if_neg (by simp)]
  unfold openR;rw[if_pos hsnap,hsegs];simp only;unfold openM;rw[if_neg (by simp[hsw.1]),hlast,if_neg (by simp[hmd.1])]
 rw[hop];generalize hD:(mendT (sweepT (useN s.man) d).1 ⟨g.base,w,endR l w⟩).1=D' at *;obtain⟨m1,m2,m3,m4,m5,m6,m7⟩:=hmd;have hrow:((rowS l).take c).take (((endR l w:Nat):Int)).toNat=rowS (l.take w):=by
  have e:rowS l=rowS (l.take w)++rowS (l.drop w):=by rw[<- rowS_two,List.take_append_drop]
  rw[Int.toNat_natCast,List.take_take,Nat.min_eq_left hel];rw[e];exact List.take_left' rfl
 simp only[hrow] at m3;have hfl:fm D'.files (fileN g.base)=some (rowS (l.take w),(((rowS (l.take w)).length:Nat):Int)):=by rw[m3,up_at];rfl
 have hoth:∀ n,n∈useN s.man->n≠fileN g.base->fm D'.files n=fm d.files n:=by
  intro n hn hne;rw[m3,up_ne _ _ hne,hsw.2.2.1,if_pos hn]
 have hMd:∀ p∈M,fileN p.1.base≠fileN g.base:=by
  intro p hp e;have:=bases_lt h.inv.chain p hp;have h1:=(ho.seg _ (h.mem p (List.mem_append_left _ hp))).1;have h2:=(ho.seg _ (h.mem (g,l) (by simp))).1
  have:p.1.base=g.base:=fileN_inj h1 h2 e;omega
 have hMf:∀ p∈M,fm D'.files (fileN p.1.base)=some (rowS p.2,(((rowS p.2).length:Nat):Int)):=by
  intro p hp;rw[hoth _ ((huse _).2 (.inr (.inl ⟨p,List.mem_append_left _ hp,rfl⟩))) (hMd p hp)];exact hwhole _ _ (hrf p (List.mem_append_left _ hp)) (h.full p hp)
 have hman2:(⟨D',s.man.ver,M.map (·.1)++[⟨g.base,w,endR l w⟩],g.base+w,g.base+w,s.man.size,s.man.sum⟩:Sto).man=s.man:=by
  show(⟨s.ver,(M.map (·.1)++[(⟨g.base,w,endR l w⟩:Seg)]).map Seg.base,s.size,s.sum⟩:Man)=⟨s.ver,s.segs.map Seg.base,s.size,s.sum⟩;rw[h.inv.segs];simp
 have hgb:=(ho.seg _ (h.mem (g,l) (by simp))).1
 have hlw:(l.take w).length=w:=by rw[List.length_take];omega
 refine⟨w,hw1,hw2,rfl,⟨⟨rfl,fun p hp=>?_,h.inv.chain,by show g.base+(w:Int)=g.base+((l.take w).length:Nat);rw[hlw],by show 0<=g.base+(w:Int)∧g.base+(w:Int)<=g.base+(w:Int);omega⟩,?_,?_,by rw[hman2];exact h.right,hMf,⟨(rowS (l.take w)).length,hfl,?_,Nat.le_refl _⟩,by show g.base<=g.base+(w:Int);omega,fun _ n hn=>?_⟩,m2,m5,?_,?_,rfl,rfl,rfl,⟨?_,?_,fun a ha=>?_,?_,ho.ver,ho.sum⟩,fun m hm=>?_,by rw[hrl];exact hw4.symm,hman2,by rw[hrd],by rw[hrd];exact hdec,hsnap,hsegs,fun n=>(huse n).trans ⟨?_,?_⟩⟩
 ·rcases List.mem_append.1 hp with hp|hp
  ·have hp2:=h.inv.file p (List.mem_append_left _ hp);exact⟨(fm_hasD m7 _ _).2 ⟨_,hMf p hp⟩,hp2.why,hp2.num,hp2.n,hp2.size⟩
  ·rw[List.mem_singleton.1 hp];exact⟨(fm_hasD m7 _ _).2 ⟨_,hfl⟩,fun r hr=>hfile.why r (List.mem_of_mem_take hr),numB_take w hfile.num,by show(w:Int)=((l.take w).length:Nat);rw[hlw],rfl⟩
 ·rcases h.snp with h1|⟨h1,h2,h3⟩
  ·exact .inl h1
  ·refine .inr ⟨h1,?_,h3⟩;show fm D'.files _=_;rw[hoth _ ((huse _).2 (.inr (.inr ⟨h1,rfl⟩))) (snap_file _ _)];exact hwhole _ _ (.inr (.inr ⟨h1,rfl⟩)) h2
 ·rw[hman2];show fm D'.files _=_;rw[hoth _ ((huse _).2 (.inl rfl)) (Ne.symm (n109 _ (by rw[fileN_len];decide)))]
  exact hman
 ·show(rowS ((l.take w).take _)).length<=_;have:(l.take w).take (g.base+(w:Int)-g.base).toNat=l.take w:=List.take_of_length_le (by omega)
  show(rowS ((l.take w).take (g.base+(w:Int)-g.base).toNat)).length<=_;rw[this];exact Nat.le_refl _
 ·have hn2:fm D'.files n≠none:=hn;have hnu:n∈useN s.man:=by
   apply Classical.byContradiction;intro hc;have:n≠fileN g.base:=fun e=>hc (e ▸ hgu)
   rw[m3,up_ne _ _ this,hsw.2.2.1,if_neg hc] at hn2;exact hn2 rfl
  rcases(huse n).1 hnu with e|⟨p,hp,e⟩|e
  ·exact .inl e
  ·refine .inr (.inl ?_);rcases List.mem_append.1 hp with hp|hp
   ·exact⟨p.1,List.mem_append_left _ (List.mem_map_of_mem hp),e⟩
   ·rw[List.mem_singleton.1 hp] at e;exact⟨⟨g.base,w,endR l w⟩,by show _∈_++[_];simp,e⟩
  ·exact .inr (.inr e)
 ·exact m4.trans (hsw.2.2.2.1.trans hcp)
 ·exact m6.trans (hsw.2.2.2.2.2.1.trans hlf)
 ·have:=mend_ok (sweep_ok hks (useN s.man)) ⟨g.base,w,endR l w⟩;rw[hD] at this;exact this
 ·show 1<=(M.map (fun p:SR=>p.1)++[(⟨g.base,w,endR l w⟩:Seg)]).length∧(M.map (fun p:SR=>p.1)++[(⟨g.base,w,endR l w⟩:Seg)]).length<=64
  have:=ho.len;rw[h.inv.segs] at this;simpa using this
 ·have ha2:a∈M.map (·.1)++[(⟨g.base,w,endR l w⟩:Seg)]:=ha;rcases List.mem_append.1 ha2 with ha2|ha2
  ·exact ho.seg a (by rw[h.inv.segs];exact List.mem_append_left _ ha2)
  ·rw[List.mem_singleton.1 ha2];have h3:(0<=g.n∧g.n<=u)∧(0<=g.size∧g.size<=u):=(ho.seg _ (h.mem (g,l) (by simp))).2
   have h4:g.n=((l.length:Nat):Int):=hfile.n;have h5:g.size=(((rowS l).length:Nat):Int):=hfile.size;refine⟨hgb,⟨?_,?_⟩,?_,?_⟩ <;> simp only[] <;> omega
 ·show 0<=g.base+(w:Int)∧g.base+(w:Int)<=_;have:=ho.next;have hgb2:0<=g.base:=hgb.1;omega
 ·rw[hrd,hdec] at hm;cases hm;exact hmo
 ·rintro(h1|⟨p,hp,h1⟩|h1)
  ·exact .inl h1
  ·exact .inr (.inl ⟨p.1,h.mem p hp,h1⟩)
  ·exact .inr (.inr h1)
 ·rintro(h1|⟨a,ha,h1⟩|h1)
  ·exact .inl h1
  ·rw[h.inv.segs] at ha;rcases List.mem_append.1 ha with ha|ha
   ·obtain⟨p,hp,rfl⟩:=List.mem_map.1 ha;exact .inr (.inl ⟨p,List.mem_append_left _ hp,h1⟩)
   ·rw[List.mem_singleton.1 ha] at h1;exact .inr (.inl ⟨(g,l),by simp,h1⟩)
  ·exact .inr (.inr h1)
theorem W.crash (ho:okS k u s) (h:W f S l0 s M g l) (hin:inB s.disk.files) (keep:List Int) :
  ∃ w,(s.sure-g.base).toNat<=w∧w<=l.length∧(openT (crashT s.disk keep)).2=0∧W f S l0 (openT (crashT s.disk keep)).1 M ⟨g.base,w,endR l w⟩ (l.take w) ∧
   (openT (crashT s.disk keep)).1.disk.down=false∧(openT (crashT s.disk keep)).1.disk.armed=false∧(openT (crashT s.disk keep)).1.disk.cap=s.disk.cap∧(openT (crashT s.disk keep)).1.disk.left=0 ∧
   (openT (crashT s.disk keep)).1.next=g.base+w∧(openT (crashT s.disk keep)).1.sure=g.base+w∧(openT (crashT s.disk keep)).1.ver=s.ver∧okS k u (openT (crashT s.disk keep)).1∧(∀ m,decM (readF (crashT s.disk keep).files [109]).1=some m->m.ok)∧w=(scanS (readF (crashT s.disk keep).files (fileN g.base)).1 g.base).1.length∧(openT (crashT s.disk keep)).1.man=s.man∧((readF (crashT s.disk keep).files [109]).2=0∧decM (readF (crashT s.disk keep).files [109]).1=some s.man∧snapOk (crashT s.disk keep) s.man=true∧segsT (crashT s.disk keep) s.man.segs=some (M.map (·.1)++[⟨g.base,w,endR l w⟩])∧∀ n,n∈useN s.man↔rel f s n) :=
 h.torn ho (crashT s.disk keep) (crash_okN ho.dsk keep) rfl rfl rfl rfl fun n _ x q hx=>by
  rcases crL_fm s.disk.files keep hin n with⟨h1,_⟩|⟨y,q,c,h1,h2,h3,h4⟩
  ·rw[hx] at h1;cases h1
  ·rw[hx] at h1;cases h1;exact⟨c,h2,h3,h4⟩
theorem WR.crash {R:List Rec} (ho:okS k u s) (h:WR f S l0 s R) (hin:inB s.disk.files) (keep:List Int) :
  ∃ j,(s.sure-f).toNat<=j∧j<=R.length∧(openT (crashT s.disk keep)).2=0∧WR f S l0 (openT (crashT s.disk keep)).1 (R.take j) ∧
   (openT (crashT s.disk keep)).1.disk.down=false∧(openT (crashT s.disk keep)).1.disk.armed=false∧(openT (crashT s.disk keep)).1.disk.cap=s.disk.cap∧(openT (crashT s.disk keep)).1.disk.left=0 ∧
   (openT (crashT s.disk keep)).1.next=f+j∧(openT (crashT s.disk keep)).1.sure=f+j∧(openT (crashT s.disk keep)).1.ver=s.ver∧okS k u (openT (crashT s.disk keep)).1∧(∀ m,decM (readF (crashT s.disk keep).files [109]).1=some m->m.ok):=by
 obtain⟨M,g,l,h,rfl⟩:=h;obtain⟨w,h1,h2,h3,h4,h5,h6,h7,h8,h9,h10,h11,h12,h13,_,_,_⟩:=h.crash ho hin keep;have hcl:=chain_len _ _ _ h.inv.chain;refine⟨(recsM M).length+w,by omega,by rw[recsM_app,recsM_one,List.length_append];simp only[];omega,h3,⟨M,_,_,h4,?_⟩,h5,h6,h7,h8,by rw[h9];omega,by rw[h10];omega,h11,h12,h13⟩
 rw[recsM_app,recsM_one,recsM_app,recsM_one,List.take_append,List.take_of_length_le (Nat.le_add_right _ _),Nat.add_sub_cancel_left]
variable {k u:Nat}
def pastL (seg:Int) (l:List Ac) (keep:List Int) (fi at_ tu fu:Int) (fd:Bool):List L:=[.d (.i .u8 seg),.d (.l (l.map Ac.enc)),.d (.l (keep.map eI)),.d (.i .u8 fi),.d (.i .u16 at_),.d (.i .u8 tu),.d (.i .u8 fu),.d (.b fd)]
def noD:List L:=[.d (.l []),.d (.i .i64 0),.d (.b false),.d (.i .i64 0),.d (.b false)]
def crashedV (P:Sto × Bool) (keep:List Int):V:=if P.2=true∧keep.length<=300 then .tup [(true,P.1.l),(true,(crashT P.1.disk keep).l),(false,[.d (.b true)])] else .tup [(true,P.1.l),(true,noD),(false,[.d (.b false)])]
set_option maxRecDepth 8000 in
set_option maxHeartbeats 2000000 in
theorem crashed_spec (seg:Nat) (hs:seg<256) (l:List Ac) (hl:l.length<=9223372036854775807) (ha:∀ a∈l,a.ok) (keep:List Int) (hkl:keep.length<=9223372036854775807) (hki:∀ a∈keep,-9223372036854775808<=a∧a<9223372036854775808) (fi at_ tu fu:Int) (fd:Bool) :
  call 13 [.agg (pastL (seg:Nat) l keep fi at_ tu fu fd)] []=some (crashedV (playT (20+(seg:Int)) l) keep,[]):=by
 have q1:=rplay_spec (20+(seg:Int)) l hl ha;have hp:=play_PI (20+(seg:Int)) l ha;have hin:=play_in (20+(seg:Int)) l;have hcell:∀ s:Sto,s.l=[.d (.l (s.disk.files.map Fil.enc)),.d (.i .i64 s.disk.cap),.d (.b s.disk.armed),.d (.i .i64 s.disk.left),.d (.b s.disk.down),.d (.i .i64 s.ver),.d (.l (s.segs.map Seg.enc)),.d (.i .i64 s.next),.d (.i .i64 s.sure),.d (.i .i64 s.size),.d (.i .u32 s.sum)]:=fun _=>rfl
 have hdl:∀ d:Dsk,d.l=([.d (.l (d.files.map Fil.enc)),.d (.i .i64 d.cap),.d (.b d.armed),.d (.i .i64 d.left),.d (.b d.down)]:List L):=fun _=>rfl
 unfold pastL crashedV noD;generalize playT (20+(seg:Int)) l=P at *;obtain⟨st,ok⟩:=P;simp only[hcell] at q1 hp hin ⊢;cases ok with
 | false =>
  rw[if_neg (by simp)]
  apply enterS s13 rfl;(simp(disch:=first|decide|omega|(intros;exact Eq.trans rfl rfl)|simp only[puri]) only[wkf,a13,q1,go_sem,seval,dis])
  try simp[trim]
 | true =>
  by_cases c:keep.length<=300
  ·rw[if_pos ⟨rfl,c⟩];have q2:=rcrash_spec st.disk (Nat.le_trans hp.ok.dsk.len (by decide)) (Nat.le_trans hp.ok.dsk.used (by decide)) hin keep (by omega) hki
   have c':¬ (300:Int)<(keep.length:Int):=by omega
   simp only[hdl] at q2 ⊢;apply enterS s13 rfl;(simp(disch:=first|decide|omega|(intros;exact Eq.trans rfl rfl)|simp only[puri]) only[wkf,a13,q1,decide_eq_false c',q2,List.length_map,go_sem,seval,dis])
   try simp[trim]
  ·rw[if_neg (by simp[c])]
   have c':(300:Int)<(keep.length:Int):=by omega
   apply enterS s13 rfl;(simp(disch:=first|decide|omega|(intros;exact Eq.trans rfl rfl)|simp only[puri]) only[wkf,a13,q1,decide_eq_true c',List.length_map,go_sem,seval,dis])
   try simp[trim]
theorem stF_take (l0:List Pr) (f:Int) (R:List Rec) (j:Nat) (h:j<=R.length):stF l0 f (R.take j) (f+j)=stF l0 f R (f+j):=by
 unfold stF;have:(f+(j:Int)-f).toNat=j:=by omega
 rw[this,List.take_take,Nat.min_self]
set_option maxRecDepth 20000 in
set_option maxHeartbeats 8000000 in
theorem sure14 (seg:Nat) (hs:seg<256) (l:List Ac) (hl:l.length<=9223372036854775807) (ha:∀ a∈l,a.ok) (keep:List Int) (hkl:keep.length<=9223372036854775807) (hki:∀ a∈keep,-9223372036854775808<=a∧a<9223372036854775808) (fi at_ tu fu:Int) (fd:Bool) :
  call 5 [.agg (pastL (seg:Nat) l keep fi at_ tu fu fd)] []=some (vb true,[]):=by
 have q1:=crashed_spec seg hs l hl ha keep hkl hki fi at_ tu fu fd;have q0:=awake14_spec;have hp:=play_PI (20+(seg:Int)) l ha;have hw:=play_LW (seg:=20+(seg:Int)) (by omega) l ha
 have hin:=play_in (20+(seg:Int)) l;have hcell:∀ s:Sto,s.l=[.d (.l (s.disk.files.map Fil.enc)),.d (.i .i64 s.disk.cap),.d (.b s.disk.armed),.d (.i .i64 s.disk.left),.d (.b s.disk.down),.d (.i .i64 s.ver),.d (.l (s.segs.map Seg.enc)),.d (.i .i64 s.next),.d (.i .i64 s.sure),.d (.i .i64 s.size),.d (.i .u32 s.sum)]:=fun _=>rfl
 have hdl:∀ d:Dsk,d.l=([.d (.l (d.files.map Fil.enc)),.d (.i .i64 d.cap),.d (.b d.armed),.d (.i .i64 d.left),.d (.b d.down)]:List L):=fun _=>rfl
 unfold pastL crashedV noD at *;generalize playT (20+(seg:Int)) l=P at *;obtain⟨st,ok⟩:=P;simp only at hp hin hw;apply enterS s5 rfl;by_cases c:ok=true∧keep.length<=300
 ·rw[if_pos c] at q1;obtain⟨f,S,l0,R,hw⟩:=hw;obtain⟨j,j1,j2,j3,j4,j5,j6,j7,j8,j9,j10,j11,j12,_⟩:=hw.crash hp.ok hin keep;have q2:=popen_spec (crashT st.disk keep) (crash_okN hp.ok.dsk keep) (by decide) (by decide)
  generalize crashT st.disk keep=cd at *;generalize openT cd=r at *;obtain⟨x,e⟩:=r;simp only at j3 j4 j9 j10 j12;subst j3;have f1:=rfloor_spec st;have f2:=rfloor_spec x;have r1:=fun off=>rread_any st hp.ok (by decide) (by decide) off
  have r2:=fun off=>rread_any x j12 (by decide) (by decide) off
  have hfl:=hw.floor;have hfx:=j4.floor;have hnx:=hw.next;have hnn:=hp.next;have hff:=(floor_ok hp.ok).1;have s1:=rstate_sto st hp.ok (by decide) (by decide) (f+j) (by omega)
  have s2:=rstate_sto x j12 (by decide) (by decide) (f+j) (by omega)
  rw[hw.stT hp.ok (f+j) (by omega)] at s1
  rw[j4.stT j12 (f+j) (by omega),stF_take l0 f R j j2] at s2
  have s3:=(hw.st_ok (f+j)).2.2;have s4:=same05_rfl (stF l0 f R (f+j)) (by omega)
  generalize stF l0 f R (f+j)=SL at *;have k1:¬ ((st.segs.length:Nat):Int)=0:=by have:=hp.ok.len;omega
  have k2:¬ ((x.segs.length:Nat):Int)=0:=by have:=j12.len;omega
  have k3:¬ x.next<st.sure:=by rw[j9];omega
  have k4:¬ st.next<x.next:=by rw[j9,hnx];omega
  have k5:x.sure=x.next:=by rw[j9,j10]
  have k6:x.next=f+j:=j9;have hb:0<=f∧f+(j:Int)<=1099511627776:=by have:=hp.ok.next;omega
  have hmm:(if f<f then f else f)=f:=by simp
  have k7:(f<=f+(j:Int)):=by omega
  have k8:∀ i:Nat,i<j->rgetT x (f+i)=rgetT st (f+i)∧∃ r:Rec,rgetT st (f+i)=.tup [(true,[.d (.i .i64 r.at_),.d (.i .i64 r.ti),.d (.s r.da)]),(false,[.d (.i .i64 0)])]:=by
   intro i hi;have a1:=hw.rget hp.ok i (by omega)
   have a2:=j4.rget j12 i (by rw[List.length_take];omega)
   rw[a1,a2];refine⟨?_,_,rfl⟩;rw[List.getElem_take]
  clear hw j4 j1 j2 j5 j6 j7 j8 j9 j10 j11 j12 hp hin hnx hnn;rw[hfl] at f1;rw[hfx] at f2;simp only[stoV,hcell,hdl,k5,k6] at q1 q2 f1 f2 r1 r2 s1 s2 k3 k4;(simp(disch:=first|decide|omega|(intros;exact Eq.trans rfl rfl)|simp only[puri]) only[wkf,a5,q1,q2,eq_false k1,eq_false k2,decide_eq_false k3,decide_eq_false k4,f1,f2,hmm,List.length_map,go_sem,seval,dis])
  refine loop_boxM (m:=0) (σ:=Nat) (fun i=>j-i) (fun i=>i<=j) (fun i=>[V.one (.p 0 0),V.one (.p 1 0),vi f,vi (f+i)]) (fun _=>[.cells [.d (.l (st.disk.files.map Fil.enc)),.d (.i .i64 st.disk.cap),.d (.b st.disk.armed),.d (.i .i64 st.disk.left),.d (.b st.disk.down),.d (.i .i64 st.ver),.d (.l (st.segs.map Seg.enc)),.d (.i .i64 st.next),.d (.i .i64 st.sure),.d (.i .i64 st.size),.d (.i .u32 st.sum)],.cells [.d (.l (x.disk.files.map Fil.enc)),.d (.i .i64 x.disk.cap),.d (.b x.disk.armed),.d (.i .i64 x.disk.left),.d (.b x.disk.down),.d (.i .i64 x.ver),.d (.l (x.segs.map Seg.enc)),.d (.i .i64 (f+(j:Int))),.d (.i .i64 (f+(j:Int))),.d (.i .i64 x.size),.d (.i .u32 x.sum)]]) (fun _=>(vb true,[])) ?_ 0 (Nat.zero_le _) _ _ ?_
  rotate_left
  ·rw[show f+((0:Nat):Int)=f by omega]
   exact hdM
  intro i hi R' hR;by_cases ci:i<j
  ·have hc:f+(i:Int)<f+(j:Int):=by omega
   obtain⟨e1,r,e2⟩:=k8 i ci;have r1':=r1 (f+i);have r2':=r2 (f+i);rw[e1] at r2';rw[e2] at r1' r2';have hK:=hR (i+1) (by omega) (by omega)
   have hi1:f+((i+1:Nat):Int)=f+(i:Int)+1:=by omega
   rw[hi1] at hK;have hse:scEqs [0,0,2] [.d (.i .i64 r.at_),.d (.i .i64 r.ti),.d (.s r.da)] [.d (.i .i64 r.at_),.d (.i .i64 r.ti),.d (.s r.da)]=some true:=(Rec.eqs r r).trans (by simp)
   (simp(disch:=first|decide|omega|(intros;exact Eq.trans rfl rfl)|simp only[puri]) only[wkf,a5_0,decide_eq_true hc,r1',r2',hse,go_sem,seval,dis])
   exact hK _ _ hdM
  ·have hc:¬ f+(i:Int)<f+(j:Int):=by omega
   have hij:i=j:=by omega
   (simp(disch:=first|decide|omega|(intros;exact Eq.trans rfl rfl)|simp only[puri]) only[wkf,a5_0,a5,decide_eq_false hc,q0,decide_eq_true k7,s1,s2,s4,go_sem,seval,dis])
   try simp[trim]
 ·rw[if_neg c] at q1;simp only[hcell] at q1;(simp(disch:=first|decide|omega|(intros;exact Eq.trans rfl rfl)|simp only[puri]) only[wkf,a5,q1,q0,go_sem,seval,dis])
  try simp[trim]
variable {k u:Nat} {f:Int} {S:Txt} {l0:List Pr} {s s':Sto} {M:List SR} {g:Seg} {l:List Rec}
theorem W.told (h:W f S l0 s M g l) (hs:s.sure=s.next) {n:Txt} (hr:rel f s n):∃ t:Txt,fm s.disk.files n=some (t,((t.length:Nat):Int))∧∀ s',W f S l0 s' M g l->s'.sure=s'.next->s'.man=s.man->fm s'.disk.files n=some (t,((t.length:Nat):Int)):=by
 have hend:∀ s,W f S l0 s M g l->s.sure=s.next->fm s.disk.files (fileN g.base)=some (rowS l,(((rowS l).length:Nat):Int)):=by
  intro s h hs;obtain⟨q,h1,h2,h3⟩:=h.last;have hn:=h.inv.next;have:l.take (s.sure-g.base).toNat=l:=List.take_of_length_le (by omega)
  rw[this] at h2;have:q=(rowS l).length:=by omega
  rw[h1,this]
 rcases hr with e|⟨a,ha,e⟩|⟨hf,e⟩
 ·subst e;exact⟨_,h.man,fun s' h' _ hm=>by rw[h'.man,hm];rfl⟩
 ·subst e;rw[h.inv.segs] at ha;rcases List.mem_append.1 ha with ha|ha
  ·obtain⟨p,hp,rfl⟩:=List.mem_map.1 ha;exact⟨_,h.full p hp,fun s' h' _ _=>h'.full p hp⟩
  ·rw[List.mem_singleton.1 ha];exact⟨_,hend s h hs,fun s' h' hs' _=>hend s' h' hs'⟩
 ·subst e;have hsn:∀ s,W f S l0 s M g l->fm s.disk.files (snapN f)=some (S,((S.length:Nat):Int)):=by
   intro s h;rcases h.snp with⟨h1,_⟩|⟨_,h2,_⟩
   ·omega
   ·exact h2
  exact⟨_,hsn s h,fun s' h' _ _=>hsn s' h'⟩
theorem W.one (h:W f S l0 s M g l) (h':W f S l0 s' M g l) (hs:s.sure=s.next) (hs':s'.sure=s'.next) (hm:s'.man=s.man) (o:srt s.disk.files) (o':srt s'.disk.files) (hd:s.disk.down=false) (hd':s'.disk.down=false)
  (ha:s'.disk.armed=s.disk.armed) (hc:s'.disk.cap=s.disk.cap) (hl:s'.disk.left=s.disk.left):s'=s:=by
 have hsg:s'.segs=s.segs:=by rw[h.inv.segs,h'.inv.segs]
 have hn:s'.next=s.next:=by rw[h.inv.next,h'.inv.next]
 have hf:s'.disk.files=s.disk.files:=by
  refine fm_ext _ _ o' o (funext fun n=>?_)
  by_cases hr:rel f s n
  ·obtain⟨t,h1,h2⟩:=h.told hs hr;rw[h1,h2 s' h' hs' hm]
  ·have e1:fm s.disk.files n=none:=Classical.byContradiction fun hc=>hr (h.only hd n hc)
   have e2:fm s'.disk.files n=none:=Classical.byContradiction fun hc=>hr (by have:=h'.only hd' n hc;unfold rel at this ⊢;rw[hsg] at this;exact this)
   rw[e1,e2]
 have m1:s'.ver=s.ver:=congrArg Man.ver hm;have m2:s'.size=s.size:=congrArg Man.size hm;have m3:s'.sum=s.sum:=congrArg Man.sum hm;obtain⟨⟨fl,cp,ar,lf,dn⟩,ver,segs,next,sure,size,sum⟩:=s;obtain⟨⟨fl',cp',ar',lf',dn'⟩,ver',segs',next',sure',size',sum'⟩:=s';simp only at *;subst hsg hn hf m1 m2 m3 ha hc hl;rw[hd,hd',hs,hs']
variable {k u:Nat} {f:Int} {S:Txt} {l0:List Pr} {s:Sto} {M:List SR} {g:Seg} {l:List Rec}
variable {k u:Nat} {f:Int} {S:Txt} {l0:List Pr} {s s':Sto} {M:List SR} {g:Seg} {l:List Rec}
theorem past_of (xs:List V) (h:wfAs [(true,[.i .u8,.l [.i .i64,.i .i64,.i .i64,.s],.l [.i .i64],.i .u8,.i .u16,.i .u8,.i .u8,.b])] xs) :
  ∃ (seg fi at_ tu fu:Nat) (l:List Ac) (keep:List Int) (fd:Bool),xs=[.agg (pastL (seg:Nat) l keep (fi:Nat) (at_:Nat) (tu:Nat) (fu:Nat) fd)]∧seg<256∧l.length<=9223372036854775807∧(∀ a∈l,a.ok)∧keep.length<=9223372036854775807 ∧
   (∀ a∈keep,-9223372036854775808<=a∧a<9223372036854775808)∧fi<256∧at_<65536∧tu<256∧fu<256:=by
 simp only[wfAs,wfA] at h;obtain⟨_,_,rfl,⟨d,rfl,hd⟩,rfl⟩:=h;simp only[wfRow,wfT] at hd;obtain⟨_,_,e1,⟨b,rfl,a1,a2⟩,_,_,e2,⟨rows,rfl,hl,hr⟩,_,_,e3,⟨krows,rfl,hkl,hkr⟩,_,_,e4,⟨fi,rfl,b1,b2⟩,_,_,e5,⟨at_,rfl,c1,c2⟩,_,_,e6,⟨tu,rfl,d1,d2⟩,_,_,e7,⟨fu,rfl,f1,f2⟩,_,_,e8,⟨fd,rfl⟩,rfl⟩:=hd;subst e1 e2 e3 e4 e5 e6 e7 e8;obtain⟨l,rfl,ha⟩:=rows_map Ac.of rows hr;have hkk:∃ keep:List Int,krows=keep.map eI∧∀ a∈keep,-9223372036854775808<=a∧a<9223372036854775808:=by
  clear hkl;induction krows with
  | nil=>exact⟨[],rfl,by simp⟩
  | cons r rs ih =>
   obtain⟨k,e,h⟩:=ih (fun x hx=>hkr x (by simp[hx]))
   have h1:=hkr r (by simp)
   obtain⟨_,_,rfl,⟨n,rfl,n1,n2⟩,rfl⟩:=h1;have n1' : -9223372036854775808<=n:=Int.le_trans (by decide) n1
   have n2':n<9223372036854775808:=Int.lt_of_le_of_lt n2 (by decide)
   refine⟨n::k,by rw[e];rfl,fun a ha=>?_⟩
   rcases List.mem_cons.1 ha with rfl|ha
   ·exact⟨n1',n2'⟩
   ·exact h a ha
 obtain⟨keep,rfl,hki⟩:=hkk;have u:∀ (n:Int) (k:IntKind) (m:Nat),k.min<=n->n<=k.max->k.min=0->k.max<(m:Int)->∃ j:Nat,n=j∧j<m:=fun n k m h1 h2 h3 h4=>⟨n.toNat,by omega,by omega⟩
 obtain⟨b',rfl,hb⟩:=u b .u8 256 a1 a2 rfl (by decide)
 obtain⟨fi',rfl,hfi⟩:=u fi .u8 256 b1 b2 rfl (by decide)
 obtain⟨at',rfl,hat⟩:=u at_ .u16 65536 c1 c2 rfl (by decide)
 obtain⟨tu',rfl,htu⟩:=u tu .u8 256 d1 d2 rfl (by decide)
 obtain⟨fu',rfl,hfu⟩:=u fu .u8 256 f1 f2 rfl (by decide)
 exact⟨b',fi',at',tu',fu',l,keep,fd,rfl,hb,by simpa using hl,ha,by simpa using hkl,hki,hfi,hat,htu,hfu⟩
theorem reopenSure_pure (xs:List V) (h:wfAs [(true,[.i .u8,.l [.i .i64,.i .i64,.i .i64,.s],.l [.i .i64],.i .u8,.i .u16,.i .u8,.i .u8,.b])] xs):call 5 xs []=some (vb true,[]):=by
 obtain⟨seg,fi,at_,tu,fu,l,keep,fd,rfl,h1,h2,h3,h4,h5,h6,h7,h8,h9⟩:=past_of xs h;exact sure14 seg h1 l h2 h3 keep h4 h5 _ _ _ _ fd
end Go.Proofs.YtghfhomfppbooaaGreat
