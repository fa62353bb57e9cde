import Derived.Test.YtghfhomfppbooaaGreatT08
import Derived.Test.YtghfhomfppbooaaGreatT07
set_option linter.unusedSimpArgs false
set_option linter.unusedVariables false
namespace Go.Proofs.YtghfhomfppbooaaGreat
open Go.Vi
variable {k u:Nat} {f:Int} {S:Txt} {l0:List Pr} {s:Sto} {M:List SR} {g:Seg} {l:List Rec}
theorem Bd {d:Dsk} (hs:srt d.files) {n:Txt} {v:Txt × Int} (h:fm d.files n=some v) {e:Int} (he:0<=e∧e<=((v.1.length:Nat):Int)):Out d (au d (kI d.files n e)) [] (up (fm d.files) n (some (v.1.take e.toNat,if e<v.2 then e else v.2))) none:=by
 have hf:bz d.files n=true:=by rw[kK hs,h];rfl
 have hr:aC d.files n=(v.1,0):=by rw[fA hs,h]
 have e2:kI d.files n e=(mY d.files (aw d.files n) (fun f=>{ f with data:=f.data.take e.toNat,sure:=if e<f.sure then e else f.sure }),0):=by
  unfold kI;rw[if_pos hf,hr,if_neg (by simp only[];omega)]
 have hu:=zE hs h (fun f=>{ f with data:=f.data.take e.toNat,sure:=if e<f.sure then e else f.sure }) (fun _=>rfl)
 rw[e2];exact mN hs rfl hu.1 hu.2
theorem Out.done {d:Dsk} {r:Dsk × Int} {X:List Txt} {G:FM} (h:Out d r X G none) (ha:d.armed=false) (hd:d.down=false):r.2=0∧r.1.down=false∧fm r.1.files=G∧r.1.cap=d.cap∧r.1.armed=false∧r.1.left=d.left∧srt r.1.files:=by
 have hi:=h.1.idle ha hd;rcases h.2.2 with⟨h1,h2,h3⟩|⟨_,hc,_⟩|⟨_,h2,_⟩
 ·exact⟨h1,h2,h3,h.1.cap,h.1.armed.trans ha,hi.2,h.2.1⟩
 ·cases hc
 ·rw[hi.1] at h2;cases h2
theorem uX {l:List Fil} (h:srt l):(du l).Nodup:=by
 unfold du List.Nodup;rw[List.pairwise_map];refine List.Pairwise.imp ?_ h;intro a b hab e;rw[e,fG] at hab;cases hab
theorem sr {use:List Txt} {n:Txt}:fZ use n=true↔n∈use:=by
 unfold fZ;rw[List.any_eq_true];constructor
 ·rintro⟨x,hx,e⟩;have:x=n:=by simpa using e
  exact this ▸ hx
 ·intro h;exact⟨n,h,by simp⟩
theorem sA {d:Dsk} (hs:srt d.files) (use:List Txt) (ha:d.armed=false) (hd:d.down=false) :
  (aV use d).2=0∧(aV use d).1.down=false∧(∀ n,fm (aV use d).1.files n=if n∈use then fm d.files n else none)∧(aV use d).1.cap=d.cap∧(aV use d).1.armed=false∧(aV use d).1.left=d.left∧srt (aV use d).1.files:=by
 have hmem:∀ n,n∈du d.files↔fm d.files n≠none:=by
  intro n;rw[Ne,iC];unfold du;rw[List.mem_map];constructor
  ·rintro⟨x,hx,e⟩ h;exact h x hx e
  ·intro h;have ⟨x,hx⟩:∃ x∈d.files,x.name=n:=by
    apply Classical.byContradiction;intro hc;exact h fun x hx e=>hc ⟨x,hx,e⟩
   exact⟨x,hx⟩
 have hO:=rk ((du d.files).filter fun n => !fZ use n) d hs ((uX hs).sublist List.filter_sublist) hd (fun n hn=>(hmem n).1 (List.mem_filter.1 hn).1)
 have h:=hO.done ha hd;refine⟨h.1,h.2.1,fun n=>?_,h.2.2.2⟩
 have h3:fm (aV use d).1.files=_:=h.2.2.1;rw[h3];unfold Kb;by_cases c:n∈use
 ·rw[if_pos c,if_neg];intro hn;have:=(List.mem_filter.1 hn).2;rw[sr.2 c] at this;cases this
 ·rw[if_neg c];by_cases c2:fm d.files n=none
  ·rw[c2];split <;> rfl
  ·rw[if_pos];refine List.mem_filter.2 ⟨(hmem n).2 c2,?_⟩;cases hk:fZ use n with
   | false=>rfl
   | true=>exact absurd (sr.1 hk) c
theorem uS {d:Dsk} (hs:srt d.files) (ha:d.armed=false) (hd:d.down=false) (z:Seg) {x:Txt} {q:Int} (h:fm d.files (fileN z.base)=some (x,q)) (hz:0<=z.size∧z.size<=((x.length:Nat):Int)) :
  (cV d z).2=0∧(cV d z).1.down=false∧fm (cV d z).1.files=up (fm d.files) (fileN z.base) (some (x.take z.size.toNat,z.size))∧(cV d z).1.cap=d.cap∧(cV d z).1.armed=false∧(cV d z).1.left=d.left∧srt (cV d z).1.files:=by
 have hr:(aC d.files (fileN z.base)).1=x:=by rw[fA hs,h]
 unfold cV;rw[hr];have hl:(((x.take z.size.toNat).length:Nat):Int)=z.size:=by rw[List.length_take];omega
 by_cases c:z.size<((x.length:Nat):Int)
 ·rw[if_pos c];have h1:=(Bd hs h hz).done ha hd;generalize au d (kI d.files (fileN z.base) z.size)=r at *;obtain⟨e1,e2,e3,e4,e5,e6,e7⟩:=h1;rw[gj e1];have h2:=(jL e7 (n:=fileN z.base) (v:=(x.take z.size.toNat,if z.size<q then z.size else q)) (by rw[e3,dS])).done e5 e2
  have e0:ee (fileN z.base) (r.1,0)=au r.1 (cJ r.1.files (fileN z.base)):=bO _ _;rw[e0];refine⟨h2.1,h2.2.1,?_,h2.2.2.2.1.trans e4,h2.2.2.2.2.1,h2.2.2.2.2.2.1.trans e6,h2.2.2.2.2.2.2⟩;rw[h2.2.2.1,e3,jC,hl]
 ·rw[if_neg c];have h2:=(jL hs h).done ha hd;have e0:ee (fileN z.base) (d,0)=au d (cJ d.files (fileN z.base)):=bO _ _;rw[e0];refine⟨h2.1,h2.2.1,?_,h2.2.2.2⟩;have hx:x.take z.size.toNat=x:=List.take_of_length_le (by omega)
  have hzl:z.size=((x.length:Nat):Int):=by omega
  rw[h2.2.2.1,hx,hzl]
theorem Gn {l:List Int} {a:Int} (h:l.head?=some a):l.headD 0=a:=by
 cases l with
 | nil=>cases h
 | cons b r=>exact Option.some.inj h
theorem W.torn (ho:okS k u s) (h:W f S l0 s M g l) (d:Dsk) (hks:okN k u d) (hdn:d.down=false) (har:d.armed=false) (hcp:d.cap=s.disk.cap) (hlf:d.left=0)
  (hfm:∀ n,rel f s n->∀ x q,fm s.disk.files n=some (x,q)->∃ c:Nat,fm d.files n=some (x.take c,((c:Nat):Int))∧q<=c∧c<=x.length) :
  ∃ w,(s.sure-g.base).toNat<=w∧w<=l.length∧(aJ d).2=0∧W f S l0 (aJ d).1 M ⟨g.base,w,b9 l w⟩ (l.take w) ∧
   (aJ d).1.disk.down=false∧(aJ d).1.disk.armed=false∧(aJ d).1.disk.cap=s.disk.cap∧(aJ d).1.disk.left=0 ∧
   (aJ d).1.next=g.base+w∧(aJ d).1.sure=g.base+w∧(aJ d).1.ver=s.ver∧okS k u (aJ d).1∧(∀ m,j4 (aC d.files [109]).1=some m->m.ok)∧w=(cU (aC d.files (fileN g.base)).1 g.base).1.length∧(aJ d).1.man=s.man∧((aC d.files [109]).2=0∧j4 (aC d.files [109]).1=some s.man∧eY d s.man=true∧dg d s.man.segs=some (M.map (·.1)++[⟨g.base,w,b9 l w⟩])∧∀ n,n∈dw s.man↔rel f s n):=by
 have hs:=hks.srt;have hwhole:∀ n x,rel f s n->fm s.disk.files n=some (x,((x.length:Nat):Int))->fm d.files n=some (x,((x.length:Nat):Int)):=by
  intro n x hr hx;obtain⟨c,h2,h3,h4⟩:=hfm n hr x _ hx;have hc:c=x.length:=by omega
  subst hc;rw[List.take_length] at h2;exact h2
 have hrf:∀ p∈M++[(g,l)],rel f s (fileN p.1.base):=fun p hp=>.inr (.inl ⟨p.1,h.mem p hp,rfl⟩)
 have hmb:=dN h.right;have hmo:s.man.ok:=⟨by have:=hmb.2.1.2;omega,ho.sum⟩
 have hman:=hwhole _ _ (.inl rfl) h.man;have hrd:aC d.files [109]=(bC s.man,0):=by rw[fA hs,hman]
 have hdec:j4 (bC s.man)=some s.man:=xX h.right hmo;have hhead:s.man.segs.headD 0=f:=Gn h.head;have hf0:0<=f:=by
  have:=h.man_inc.2 f (by have:=h.head;exact List.mem_of_mem_head? this)
  omega
 have hbase:∀ p∈M++[(g,l)],dy p.1.base=true:=by
  intro p hp;have:=(ho.seg _ (h.mem p hp)).1;unfold dy;simp;exact this
 have hsnap:eY d s.man=true:=by
  rw[AW,hhead];intro hf;rcases h.snp with⟨h1,_⟩|⟨_,h2,h3,h4,h5⟩
  ·omega
  ·have:=hwhole _ _ (.inr (.inr ⟨by assumption,rfl⟩)) h2
   have hr:aC d.files (aQ f)=(S,0):=by rw[fA hs,this]
   rw[hr];exact⟨rfl,h4.symm,h5.symm⟩
 obtain⟨q0,hl1,hl2,hl3⟩:=h.last;have hsu:=h.inv.sure;have hnx:=h.inv.next;have hlo:=h.lo;have hfile:=h.inv.file (g,l) (by simp)
 obtain⟨c,hc1,hc2,hc3⟩:∃ c:Nat,fm d.files (fileN g.base)=some ((rowS l).take c,((c:Nat):Int))∧q0<=c∧c<=(rowS l).length:=by
  obtain⟨c,h2,h3,h4⟩:=hfm _ (hrf (g,l) (by simp)) _ _ hl1
  exact⟨c,h2,by omega,h4⟩
 have hrl:aC d.files (fileN g.base)=((rowS l).take c,0):=by rw[fA hs,hc1]
 obtain⟨w,hw1,hw2,hw3,hw4,hw5⟩:=tN l g.base (hbase (g,l) (by simp)) hfile.why hfile.num c (s.sure-g.base).toNat hc3 (Nat.le_trans hl2 hc2) (by omega)
 have hsegT:(dH d g.base).1=⟨g.base,w,b9 l w⟩:=by
  unfold dH;rw[hrl];simp only[hw4,hw5]
 have hms:s.man.segs=M.map (fun p=>p.1.base)++[g.base]:=by
  show s.segs.map Seg.base=_;rw[h.inv.segs];simp
 have hsegs:dg d s.man.segs=some (M.map (·.1)++[⟨g.base,w,b9 l w⟩]):=by
  rw[hms];refine qd (by rw[hrl]) hsegT M f h.inv.chain (fun p hp=>?_) (fun p hp=>(h.inv.file p (List.mem_append_left _ hp)).n)
  have hp2:=h.inv.file p (List.mem_append_left _ hp);exact CN hs (hbase p (List.mem_append_left _ hp)) ⟨_,hwhole _ _ (hrf p (List.mem_append_left _ hp)) (h.full p hp)⟩ hp2.why hp2.num hp2.n hp2.size
 have hlast:(M.map (·.1)++[(⟨g.base,w,b9 l w⟩:Seg)]).getLastD ⟨0,0,0⟩=⟨g.base,w,b9 l w⟩:=List.getLastD_concat;have hsw:=sA hs (dw s.man) har hdn;have huse:∀ n,n∈dw s.man↔(n=[109]∨(∃ p∈M++[(g,l)],n=fileN p.1.base)∨(0<f∧n=aQ f)):=by
  intro n;unfold dw zO;rw[hhead,hms];constructor
  ·intro hn;rcases List.mem_append.1 hn with hn|hn
   ·rcases List.mem_cons.1 hn with rfl|hn
    ·exact .inl rfl
    ·split at hn
     ·rename_i hf;exact .inr (.inr ⟨hf,List.mem_singleton.1 hn⟩)
     ·cases hn
   ·obtain⟨b,hb,rfl⟩:=List.mem_map.1 hn;refine .inr (.inl ?_);rcases List.mem_append.1 hb with hb|hb
    ·obtain⟨p,hp,rfl⟩:=List.mem_map.1 hb;exact⟨p,List.mem_append_left _ hp,rfl⟩
    ·rw[List.mem_singleton.1 hb];exact⟨(g,l),by simp,rfl⟩
  ·rintro(rfl|⟨p,hp,rfl⟩|⟨hf,rfl⟩)
   ·simp
   ·refine List.mem_append_right _ (List.mem_map_of_mem ?_);rcases List.mem_append.1 hp with hp|hp
    ·exact List.mem_append_left _ (List.mem_map_of_mem (f:=fun p:SR=>p.1.base) hp)
    ·rw[List.mem_singleton.1 hp];simp
   ·rw[if_pos hf];simp
 have hgu:fileN g.base∈dw s.man:=(huse _).2 (.inr (.inl ⟨(g,l),by simp,rfl⟩))
 have hel:b9 l w<=c:=hw3;have hcl:((rowS l).take c).length=c:=by rw[List.length_take];omega
 have hmd:=uS hsw.2.2.2.2.2.2 hsw.2.2.2.2.1 hsw.2.1 ⟨g.base,w,b9 l w⟩ (x:=(rowS l).take c) (q:=c) (by rw[hsw.2.2.1,if_pos hgu];exact hc1) (by simp only[];omega)
 have hop:aJ d=(⟨(cV (aV (dw s.man) d).1 ⟨g.base,w,b9 l w⟩).1,s.man.ver,M.map (·.1)++[⟨g.base,w,b9 l w⟩],g.base+w,g.base+w,s.man.size,s.man.sum⟩,0):=by
  unfold aJ;rw[if_neg (by simp[hdn]),hrd]
  simp only[hdec];rw[if_neg (by simp)]
  unfold uo;rw[if_pos hsnap,hsegs];simp only;unfold qv;rw[if_neg (by simp[hsw.1]),hlast,if_neg (by simp[hmd.1])]
 rw[hop];generalize hD:(cV (aV (dw s.man) d).1 ⟨g.base,w,b9 l w⟩).1=D' at *;obtain⟨m1,m2,m3,m4,m5,m6,m7⟩:=hmd;have hrow:((rowS l).take c).take (((b9 l w:Nat):Int)).toNat=rowS (l.take w):=by
  have e:rowS l=rowS (l.take w)++rowS (l.drop w):=by rw[<- yq,List.take_append_drop]
  rw[Int.toNat_natCast,List.take_take,Nat.min_eq_left hel];rw[e];exact List.take_left' rfl
 simp only[hrow] at m3;have hfl:fm D'.files (fileN g.base)=some (rowS (l.take w),(((rowS (l.take w)).length:Nat):Int)):=by rw[m3,dS];rfl
 have hoth:∀ n,n∈dw s.man->n≠fileN g.base->fm D'.files n=fm d.files n:=by
  intro n hn hne;rw[m3,bW _ _ hne,hsw.2.2.1,if_pos hn]
 have hMd:∀ p∈M,fileN p.1.base≠fileN g.base:=by
  intro p hp e;have:=tK h.inv.chain p hp;have h1:=(ho.seg _ (h.mem p (List.mem_append_left _ hp))).1;have h2:=(ho.seg _ (h.mem (g,l) (by simp))).1
  have:p.1.base=g.base:=dL h1 h2 e;omega
 have hMf:∀ p∈M,fm D'.files (fileN p.1.base)=some (rowS p.2,(((rowS p.2).length:Nat):Int)):=by
  intro p hp;rw[hoth _ ((huse _).2 (.inr (.inl ⟨p,List.mem_append_left _ hp,rfl⟩))) (hMd p hp)];exact hwhole _ _ (hrf p (List.mem_append_left _ hp)) (h.full p hp)
 have hman2:(⟨D',s.man.ver,M.map (·.1)++[⟨g.base,w,b9 l w⟩],g.base+w,g.base+w,s.man.size,s.man.sum⟩:Sto).man=s.man:=by
  show(⟨s.ver,(M.map (·.1)++[(⟨g.base,w,b9 l w⟩:Seg)]).map Seg.base,s.size,s.sum⟩:Man)=⟨s.ver,s.segs.map Seg.base,s.size,s.sum⟩;rw[h.inv.segs];simp
 have hgb:=(ho.seg _ (h.mem (g,l) (by simp))).1
 have hlw:(l.take w).length=w:=by rw[List.length_take];omega
 refine⟨w,hw1,hw2,rfl,⟨⟨rfl,fun p hp=>?_,h.inv.chain,by show g.base+(w:Int)=g.base+((l.take w).length:Nat);rw[hlw],by show 0<=g.base+(w:Int)∧g.base+(w:Int)<=g.base+(w:Int);omega⟩,?_,?_,by rw[hman2];exact h.right,hMf,⟨(rowS (l.take w)).length,hfl,?_,Nat.le_refl _⟩,by show g.base<=g.base+(w:Int);omega,fun _ n hn=>?_⟩,m2,m5,?_,?_,rfl,rfl,rfl,⟨?_,?_,fun a ha=>?_,?_,ho.ver,ho.sum⟩,fun m hm=>?_,by rw[hrl];exact hw4.symm,hman2,by rw[hrd],by rw[hrd];exact hdec,hsnap,hsegs,fun n=>(huse n).trans ⟨?_,?_⟩⟩
 ·rcases List.mem_append.1 hp with hp|hp
  ·have hp2:=h.inv.file p (List.mem_append_left _ hp);exact⟨(kJ m7 _ _).2 ⟨_,hMf p hp⟩,hp2.why,hp2.num,hp2.n,hp2.size⟩
  ·rw[List.mem_singleton.1 hp];exact⟨(kJ m7 _ _).2 ⟨_,hfl⟩,fun r hr=>hfile.why r (List.mem_of_mem_take hr),uG w hfile.num,by show(w:Int)=((l.take w).length:Nat);rw[hlw],rfl⟩
 ·rcases h.snp with h1|⟨h1,h2,h3⟩
  ·exact .inl h1
  ·refine .inr ⟨h1,?_,h3⟩;show fm D'.files _=_;rw[hoth _ ((huse _).2 (.inr (.inr ⟨h1,rfl⟩))) (dm _ _)];exact hwhole _ _ (.inr (.inr ⟨h1,rfl⟩)) h2
 ·rw[hman2];show fm D'.files _=_;rw[hoth _ ((huse _).2 (.inl rfl)) (Ne.symm (m0 _ (by rw[cq];decide)))]
  exact hman
 ·show(rowS ((l.take w).take _)).length<=_;have:(l.take w).take (g.base+(w:Int)-g.base).toNat=l.take w:=List.take_of_length_le (by omega)
  show(rowS ((l.take w).take (g.base+(w:Int)-g.base).toNat)).length<=_;rw[this];exact Nat.le_refl _
 ·have hn2:fm D'.files n≠none:=hn;have hnu:n∈dw s.man:=by
   apply Classical.byContradiction;intro hc;have:n≠fileN g.base:=fun e=>hc (e ▸ hgu)
   rw[m3,bW _ _ this,hsw.2.2.1,if_neg hc] at hn2;exact hn2 rfl
  rcases(huse n).1 hnu with e|⟨p,hp,e⟩|e
  ·exact .inl e
  ·refine .inr (.inl ?_);rcases List.mem_append.1 hp with hp|hp
   ·exact⟨p.1,List.mem_append_left _ (List.mem_map_of_mem hp),e⟩
   ·rw[List.mem_singleton.1 hp] at e;exact⟨⟨g.base,w,b9 l w⟩,by show _∈_++[_];simp,e⟩
  ·exact .inr (.inr e)
 ·exact m4.trans (hsw.2.2.2.1.trans hcp)
 ·exact m6.trans (hsw.2.2.2.2.2.1.trans hlf)
 ·have:=vo (me hks (dw s.man)) ⟨g.base,w,b9 l w⟩;rw[hD] at this;exact this
 ·show 1<=(M.map (fun p:SR=>p.1)++[(⟨g.base,w,b9 l w⟩:Seg)]).length∧(M.map (fun p:SR=>p.1)++[(⟨g.base,w,b9 l w⟩:Seg)]).length<=64
  have:=ho.len;rw[h.inv.segs] at this;simpa using this
 ·have ha2:a∈M.map (·.1)++[(⟨g.base,w,b9 l w⟩:Seg)]:=ha;rcases List.mem_append.1 ha2 with ha2|ha2
  ·exact ho.seg a (by rw[h.inv.segs];exact List.mem_append_left _ ha2)
  ·rw[List.mem_singleton.1 ha2];have h3:(0<=g.n∧g.n<=u)∧(0<=g.size∧g.size<=u):=(ho.seg _ (h.mem (g,l) (by simp))).2
   have h4:g.n=((l.length:Nat):Int):=hfile.n;have h5:g.size=(((rowS l).length:Nat):Int):=hfile.size;refine⟨hgb,⟨?_,?_⟩,?_,?_⟩ <;> simp only[] <;> omega
 ·show 0<=g.base+(w:Int)∧g.base+(w:Int)<=_;have:=ho.next;have hgb2:0<=g.base:=hgb.1;omega
 ·rw[hrd,hdec] at hm;cases hm;exact hmo
 ·rintro(h1|⟨p,hp,h1⟩|h1)
  ·exact .inl h1
  ·exact .inr (.inl ⟨p.1,h.mem p hp,h1⟩)
  ·exact .inr (.inr h1)
 ·rintro(h1|⟨a,ha,h1⟩|h1)
  ·exact .inl h1
  ·rw[h.inv.segs] at ha;rcases List.mem_append.1 ha with ha|ha
   ·obtain⟨p,hp,rfl⟩:=List.mem_map.1 ha;exact .inr (.inl ⟨p,List.mem_append_left _ hp,h1⟩)
   ·rw[List.mem_singleton.1 ha] at h1;exact .inr (.inl ⟨(g,l),by simp,h1⟩)
  ·exact .inr (.inr h1)
theorem W.crash (ho:okS k u s) (h:W f S l0 s M g l) (hin:dv s.disk.files) (keep:List Int) :
  ∃ w,(s.sure-g.base).toNat<=w∧w<=l.length∧(aJ (aG s.disk keep)).2=0∧W f S l0 (aJ (aG s.disk keep)).1 M ⟨g.base,w,b9 l w⟩ (l.take w) ∧
   (aJ (aG s.disk keep)).1.disk.down=false∧(aJ (aG s.disk keep)).1.disk.armed=false∧(aJ (aG s.disk keep)).1.disk.cap=s.disk.cap∧(aJ (aG s.disk keep)).1.disk.left=0 ∧
   (aJ (aG s.disk keep)).1.next=g.base+w∧(aJ (aG s.disk keep)).1.sure=g.base+w∧(aJ (aG s.disk keep)).1.ver=s.ver∧okS k u (aJ (aG s.disk keep)).1∧(∀ m,j4 (aC (aG s.disk keep).files [109]).1=some m->m.ok)∧w=(cU (aC (aG s.disk keep).files (fileN g.base)).1 g.base).1.length∧(aJ (aG s.disk keep)).1.man=s.man∧((aC (aG s.disk keep).files [109]).2=0∧j4 (aC (aG s.disk keep).files [109]).1=some s.man∧eY (aG s.disk keep) s.man=true∧dg (aG s.disk keep) s.man.segs=some (M.map (·.1)++[⟨g.base,w,b9 l w⟩])∧∀ n,n∈dw s.man↔rel f s n) :=
 h.torn ho (aG s.disk keep) (dp ho.dsk keep) rfl rfl rfl rfl fun n _ x q hx=>by
  rcases wc s.disk.files keep hin n with⟨h1,_⟩|⟨y,q,c,h1,h2,h3,h4⟩
  ·rw[hx] at h1;cases h1
  ·rw[hx] at h1;cases h1;exact⟨c,h2,h3,h4⟩
theorem WR.crash {R:List Rec} (ho:okS k u s) (h:WR f S l0 s R) (hin:dv s.disk.files) (keep:List Int) :
  ∃ j,(s.sure-f).toNat<=j∧j<=R.length∧(aJ (aG s.disk keep)).2=0∧WR f S l0 (aJ (aG s.disk keep)).1 (R.take j) ∧
   (aJ (aG s.disk keep)).1.disk.down=false∧(aJ (aG s.disk keep)).1.disk.armed=false∧(aJ (aG s.disk keep)).1.disk.cap=s.disk.cap∧(aJ (aG s.disk keep)).1.disk.left=0 ∧
   (aJ (aG s.disk keep)).1.next=f+j∧(aJ (aG s.disk keep)).1.sure=f+j∧(aJ (aG s.disk keep)).1.ver=s.ver∧okS k u (aJ (aG s.disk keep)).1∧(∀ m,j4 (aC (aG s.disk keep).files [109]).1=some m->m.ok):=by
 obtain⟨M,g,l,h,rfl⟩:=h;obtain⟨w,h1,h2,h3,h4,h5,h6,h7,h8,h9,h10,h11,h12,h13,_,_,_⟩:=h.crash ho hin keep;have hcl:=iQ _ _ _ h.inv.chain;refine⟨(aY M).length+w,by omega,by rw[cZ,dM,List.length_append];simp only[];omega,h3,⟨M,_,_,h4,?_⟩,h5,h6,h7,h8,by rw[h9];omega,by rw[h10];omega,h11,h12,h13⟩
 rw[cZ,dM,cZ,dM,List.take_append,List.take_of_length_le (Nat.le_add_right _ _),Nat.add_sub_cancel_left]
variable {k u:Nat}
def xJ (seg:Int) (l:List Ac) (keep:List Int) (fi at_ tu fu:Int) (fd:Bool):List L:=[.d (.i .u8 seg),.d (.l (l.map Ac.enc)),.d (.l (keep.map eI)),.d (.i .u8 fi),.d (.i .u16 at_),.d (.i .u8 tu),.d (.i .u8 fu),.d (.b fd)]
def Pj:List L:=[.d (.l []),.d (.i .i64 0),.d (.b false),.d (.i .i64 0),.d (.b false)]
def sZ (P:Sto × Bool) (keep:List Int):V:=if P.2=true∧keep.length<=300 then .tup [(true,P.1.l),(true,(aG P.1.disk keep).l),(false,[.d (.b true)])] else .tup [(true,P.1.l),(true,Pj),(false,[.d (.b false)])]
set_option maxRecDepth 8000 in
set_option maxHeartbeats 2000000 in
theorem wM (seg:Nat) (hs:seg<256) (l:List Ac) (hl:l.length<=9223372036854775807) (ha:∀ a∈l,a.ok) (keep:List Int) (hkl:keep.length<=9223372036854775807) (hki:∀ a∈keep,-9223372036854775808<=a∧a<9223372036854775808) (fi at_ tu fu:Int) (fd:Bool) :
  call 13 [.agg (xJ (seg:Nat) l keep fi at_ tu fu fd)] []=some (sZ (ku (20+(seg:Int)) l) keep,[]):=by
 have q1:=zj (20+(seg:Int)) l hl ha;have hp:=BE (20+(seg:Int)) l ha;have hin:=Bk (20+(seg:Int)) l;have hcell:∀ s:Sto,s.l=[.d (.l (s.disk.files.map Fil.enc)),.d (.i .i64 s.disk.cap),.d (.b s.disk.armed),.d (.i .i64 s.disk.left),.d (.b s.disk.down),.d (.i .i64 s.ver),.d (.l (s.segs.map Seg.enc)),.d (.i .i64 s.next),.d (.i .i64 s.sure),.d (.i .i64 s.size),.d (.i .u32 s.sum)]:=fun _=>rfl
 have hdl:∀ d:Dsk,d.l=([.d (.l (d.files.map Fil.enc)),.d (.i .i64 d.cap),.d (.b d.armed),.d (.i .i64 d.left),.d (.b d.down)]:List L):=fun _=>rfl
 unfold xJ sZ Pj;generalize ku (20+(seg:Int)) l=P at *;obtain⟨st,ok⟩:=P;simp only[hcell] at q1 hp hin ⊢;cases ok with
 | false =>
  rw[if_neg (by simp)]
  apply ai Pd rfl;(simp(disch:=first|decide|omega|(intros;exact rfl)|simp only[aa]) only[aS,NB,q1,go_sem,seval,aq])
  try simp[trim]
 | true =>
  by_cases c:keep.length<=300
  ·rw[if_pos ⟨rfl,c⟩];have q2:=gX st.disk (Nat.le_trans hp.ok.dsk.len (by decide)) (Nat.le_trans hp.ok.dsk.used (by decide)) hin keep (by omega) hki
   have c':¬ (300:Int)<(keep.length:Int):=by omega
   simp only[hdl] at q2 ⊢;apply ai Pd rfl;(simp(disch:=first|decide|omega|(intros;exact rfl)|simp only[aa]) only[aS,NB,q1,decide_eq_false c',q2,List.length_map,go_sem,seval,aq])
   try simp[trim]
  ·rw[if_neg (by simp[c])]
   have c':(300:Int)<(keep.length:Int):=by omega
   apply ai Pd rfl;(simp(disch:=first|decide|omega|(intros;exact rfl)|simp only[aa]) only[aS,NB,q1,decide_eq_true c',List.length_map,go_sem,seval,aq])
   try simp[trim]
variable {k u:Nat} {f:Int} {S:Txt} {l0:List Pr} {s s':Sto} {M:List SR} {g:Seg} {l:List Rec}
theorem W.told (h:W f S l0 s M g l) (hs:s.sure=s.next) {n:Txt} (hr:rel f s n):∃ t:Txt,fm s.disk.files n=some (t,((t.length:Nat):Int))∧∀ s',W f S l0 s' M g l->s'.sure=s'.next->s'.man=s.man->fm s'.disk.files n=some (t,((t.length:Nat):Int)):=by
 have hend:∀ s,W f S l0 s M g l->s.sure=s.next->fm s.disk.files (fileN g.base)=some (rowS l,(((rowS l).length:Nat):Int)):=by
  intro s h hs;obtain⟨q,h1,h2,h3⟩:=h.last;have hn:=h.inv.next;have:l.take (s.sure-g.base).toNat=l:=List.take_of_length_le (by omega)
  rw[this] at h2;have:q=(rowS l).length:=by omega
  rw[h1,this]
 rcases hr with e|⟨a,ha,e⟩|⟨hf,e⟩
 ·subst e;exact⟨_,h.man,fun s' h' _ hm=>by rw[h'.man,hm];rfl⟩
 ·subst e;rw[h.inv.segs] at ha;rcases List.mem_append.1 ha with ha|ha
  ·obtain⟨p,hp,rfl⟩:=List.mem_map.1 ha;exact⟨_,h.full p hp,fun s' h' _ _=>h'.full p hp⟩
  ·rw[List.mem_singleton.1 ha];exact⟨_,hend s h hs,fun s' h' hs' _=>hend s' h' hs'⟩
 ·subst e;have hsn:∀ s,W f S l0 s M g l->fm s.disk.files (aQ f)=some (S,((S.length:Nat):Int)):=by
   intro s h;rcases h.snp with⟨h1,_⟩|⟨_,h2,_⟩
   ·omega
   ·exact h2
  exact⟨_,hsn s h,fun s' h' _ _=>hsn s' h'⟩
theorem W.one (h:W f S l0 s M g l) (h':W f S l0 s' M g l) (hs:s.sure=s.next) (hs':s'.sure=s'.next) (hm:s'.man=s.man) (o:srt s.disk.files) (o':srt s'.disk.files) (hd:s.disk.down=false) (hd':s'.disk.down=false)
  (ha:s'.disk.armed=s.disk.armed) (hc:s'.disk.cap=s.disk.cap) (hl:s'.disk.left=s.disk.left):s'=s:=by
 have hsg:s'.segs=s.segs:=by rw[h.inv.segs,h'.inv.segs]
 have hn:s'.next=s.next:=by rw[h.inv.next,h'.inv.next]
 have hf:s'.disk.files=s.disk.files:=by
  refine zh _ _ o' o (funext fun n=>?_)
  by_cases hr:rel f s n
  ·obtain⟨t,h1,h2⟩:=h.told hs hr;rw[h1,h2 s' h' hs' hm]
  ·have e1:fm s.disk.files n=none:=Classical.byContradiction fun hc=>hr (h.only hd n hc)
   have e2:fm s'.disk.files n=none:=Classical.byContradiction fun hc=>hr (by have:=h'.only hd' n hc;unfold rel at this ⊢;rw[hsg] at this;exact this)
   rw[e1,e2]
 have m1:s'.ver=s.ver:=congrArg Man.ver hm;have m2:s'.size=s.size:=congrArg Man.size hm;have m3:s'.sum=s.sum:=congrArg Man.sum hm;obtain⟨⟨fl,cp,ar,lf,dn⟩,ver,segs,next,sure,size,sum⟩:=s;obtain⟨⟨fl',cp',ar',lf',dn'⟩,ver',segs',next',sure',size',sum'⟩:=s';simp only at *;subst hsg hn hf m1 m2 m3 ha hc hl;rw[hd,hd',hs,hs']
theorem W.again (ho:okS k u s) (h:W f S l0 s M g l) (hs:s.sure=s.next) (hd:s.disk.down=false) (ha:s.disk.armed=false) (hl:s.disk.left=0) (d:Dsk) (hks:okN k u d) (hdn:d.down=false) (har:d.armed=false) (hcp:d.cap=s.disk.cap) (hlf:d.left=0)
  (hfm:∀ n,rel f s n->fm d.files n=fm s.disk.files n):aJ d=(s,0):=by
 obtain⟨w,h1,h2,h3,h4,h5,h6,h7,h8,h9,h10,h11,h12,_,_,h15,_⟩:=h.torn ho d hks hdn har hcp hlf fun n hr x q hx=>by
  obtain⟨t,e1,_⟩:=h.told hs hr;rw[hx] at e1;cases e1;exact⟨x.length,by rw[hfm n hr,hx,List.take_length],Int.le_refl _,Nat.le_refl _⟩
 have hn:=h.inv.next;have hw:w=l.length:=by omega
 subst hw;rw[List.take_length] at h4;have hg:(⟨g.base,(l.length:Nat),(b9 l l.length:Nat)⟩:Seg)=g:=by
  have hf:=h.inv.file (g,l) (by simp)
  have e1:g.n=((l.length:Nat):Int):=hf.n;have e2:g.size=(((rowS l).length:Nat):Int):=hf.size;have e3:b9 l l.length=(rowS l).length:=by unfold b9;rw[List.take_length]
  rw[e3];obtain⟨a,b,c⟩:=g;simp only at e1 e2;rw[e1,e2]
 rw[hg] at h4;have:=h.one h4 hs (by rw[h9,h10]) h15 ho.dsk.srt h12.dsk.srt hd h5 (by rw[h6,ha]) h7 (by rw[h8,hl])
 exact Prod.ext this h3
variable {k u:Nat} {f:Int} {S:Txt} {l0:List Pr} {s:Sto} {M:List SR} {g:Seg} {l:List Rec}
theorem CW {d:Dsk} (hs:srt d.files) (use:List Txt) (hd:d.down=false) :
  (∀ n∈use,fm (aV use d).1.files n=fm d.files n)∧srt (aV use d).1.files∧((aV use d).2=0->(aV use d).1.down=false):=by
 have hmem:∀ n,n∈du d.files->fm d.files n≠none:=by
  intro n hn;unfold du at hn;rw[List.mem_map] at hn;obtain⟨x,hx,e⟩:=hn;rw[Ne,iC];exact fun h=>h x hx e
 have hO:=rk ((du d.files).filter fun n => !fZ use n) d hs ((uX hs).sublist List.filter_sublist) hd (fun n hn=>hmem n (List.mem_filter.1 hn).1)
 have hX:∀ n∈use,¬ n∈(du d.files).filter fun n => !fZ use n:=fun n hn hm=>by
  have:=(List.mem_filter.1 hm).2;rw[sr.2 hn] at this;cases this
 refine⟨fun n hn=>?_,hO.2.1,fun h0=>?_⟩
 ·rcases hO.2.2 with⟨_,_,h⟩|⟨_,h,_⟩|⟨_,_,h⟩
  ·have h3:fm (aV use d).1.files=_:=h;rw[h3];unfold Kb;rw[if_neg (hX n hn)]
  ·cases h
  ·exact h n (hX n hn)
 ·rcases hO.2.2 with⟨_,h,_⟩|⟨_,h,_⟩|⟨h,_⟩
  ·exact h
  ·cases h
  ·rw[show(aV use d).2=10 from h] at h0;cases h0
theorem Hj {d:Dsk} (hs:srt d.files) (z:Seg) {t:Txt} (h:fm d.files (fileN z.base)=some (t,((t.length:Nat):Int))) (hz:0<=z.size∧z.size<=((t.length:Nat):Int)) :
  fm (cV d z).1.files=fm d.files∨fm (cV d z).1.files=up (fm d.files) (fileN z.base) (some (t.take z.size.toNat,z.size)):=by
 have hr:(aC d.files (fileN z.base)).1=t:=by rw[fA hs,h]
 unfold cV;rw[hr];have hl:(((t.take z.size.toNat).length:Nat):Int)=z.size:=by rw[List.length_take];omega
 have e0:∀ d:Dsk,ee (fileN z.base) (d,0)=au d (cJ d.files (fileN z.base)):=fun d=>bO _ _
 by_cases c:z.size<((t.length:Nat):Int)
 ·rw[if_pos c];have h1:=Bd hs h hz;generalize au d (kI d.files (fileN z.base) z.size)=r at *;rw[if_pos c] at h1;rcases h1.2.2 with⟨c1,_,c3⟩|⟨_,c1,_⟩|⟨c1,_,c3⟩
  ·rw[gj c1,e0];have h2:=jL h1.2.1 (n:=fileN z.base) (v:=(t.take z.size.toNat,z.size)) (by rw[c3,dS])
   simp only[hl] at h2;rw[c3,jC] at h2;rcases h2.2.2 with⟨_,_,c4⟩|⟨_,c4,_⟩|⟨_,_,c4⟩
   ·exact .inr c4
   ·cases c4
   ·exact .inr ((funext fun n=>c4 n (by simp)).trans c3)
  ·cases c1
  ·have e1:ee (fileN z.base) r=r:=by unfold ee qX;rw[if_neg (by rw[c1];decide)]
   rw[e1];exact .inl (funext fun n=>c3 n (by simp))
 ·rw[if_neg c,e0];have h2:=jL hs h;rcases h2.2.2 with⟨_,_,c4⟩|⟨_,c4,_⟩|⟨_,_,c4⟩
  ·exact .inl (c4.trans (kW h))
  ·cases c4
  ·exact .inl (funext fun n=>c4 n (by simp))
theorem Br (d:Dsk) (r:List Fil × Int):(au d r).1.cap=d.cap:=by
 unfold au;split
 ·rfl
 ·split
  ·rfl
  ·split
   ·split <;> rfl
   ·rfl
theorem Cd (s:Dsk × Int) (c:Dsk->List Fil × Int):(qX s fun d=>au d (c d)).1.cap=s.1.cap:=by
 unfold qX;split
 ·exact Br _ _
 ·rfl
theorem B4:∀ (l:List Txt) (s:Dsk × Int),(wS l s).1.cap=s.1.cap
 | [],s=>rfl
 | n::l,s=>(B4 l _).trans (Cd s _)
theorem Hz (d:Dsk) (z:Seg):(cV d z).1.cap=d.cap:=by
 unfold cV;refine(Cd _ _).trans ?_;split
 ·exact Br _ _
 ·rfl
theorem CV {d:Dsk} (hs:srt d.files) (hdn:d.down=false) (har:d.armed=false) {m:Man} {gs:List Seg} {z:Seg} (h1:(aC d.files [109]).2=0) (h2:j4 (aC d.files [109]).1=some m) (h3:eY d m=true) (h4:dg d m.segs=some gs) (hz:gs.getLastD ⟨0,0,0⟩=z)
  {t:Txt} (hN:fm d.files (fileN z.base)=some (t,((t.length:Nat):Int))) (hzs:0<=z.size∧z.size<=((t.length:Nat):Int)) (hu:fileN z.base∈dw m) (n:Int) :
  ((∀ q∈dw m,fm (aJ (j0 d n)).1.disk.files q=fm d.files q)∨(∀ q∈dw m,fm (aJ (j0 d n)).1.disk.files q=fm (aJ d).1.disk.files q))∧(aJ (j0 d n)).1.disk.cap=d.cap:=by
 have hop:∀ d':Dsk,d'.files=d.files->d'.down=false->aJ d'=qv d' m gs:=by
  intro d' hf hd;have e1:eY d' m=eY d m:=by unfold eY;rw[hf]
  have e2:dg d' m.segs=dg d m.segs:=by
   have:∀ l,dg d' l=dg d l:=by
    intro l;induction l with
    | nil=>rfl
    | cons b r ih =>
     have e3:dH d' b=dH d b:=by unfold dH;rw[hf]
     rw[fE,fE,hf,e3,ih]
   exact this _
  unfold aJ;rw[if_neg (by simp[hd]),hf,if_neg (by simp[h1]),h2]
  simp only;unfold uo;rw[e1,if_pos h3,e2,h4]
 have hfin:∀ d':Dsk,(qv d' m gs).1.disk=if(aV (dw m) d').2≠0 then(aV (dw m) d').1 else(cV (aV (dw m) d').1 z).1:=by
  intro d';unfold qv;rw[hz];split
  ·rfl
  ·split
   ·rfl
   ·rfl
 have hx:=sA hs (dw m) har hdn;have hxn:fm (aJ d).1.disk.files=up (fm (aV (dw m) d).1.files) (fileN z.base) (some (t.take z.size.toNat,z.size)):=by
  rw[hop d rfl hdn,hfin,if_neg (by simp[hx.1])]
  exact(uS hx.2.2.2.2.2.2 hx.2.2.2.2.1 hx.2.1 z (by rw[hx.2.2.1,if_pos hu];exact hN) hzs).2.2.1
 have hs2:srt (j0 d n).files:=hs;have hw:=CW hs2 (dw m) (show(j0 d n).down=false from hdn)
 rw[hop (j0 d n) rfl hdn,hfin];refine⟨?_,by
  have hc:(aV (dw m) (j0 d n)).1.cap=d.cap:=B4 _ _;split
  ·exact hc
  ·exact(Hz _ _).trans hc⟩
 have hf0:∀ q,fm (j0 d n).files q=fm d.files q:=fun _=>rfl
 split
 ·exact .inl fun q hq=>(hw.1 q hq).trans (hf0 q)
 ·rcases Hj hw.2.1 z ((hw.1 _ hu).trans hN) hzs with h|h
  ·exact .inl fun q hq=>by rw[h];exact(hw.1 q hq).trans (hf0 q)
  ·refine .inr fun q hq=>?_
   rw[h,hxn];unfold up;split
   ·rfl
   ·rw[hw.1 q hq,hx.2.2.1,if_pos hq];rfl
theorem rB {d:Dsk} (h:dv d.files):dv (aJ d).1.disk.files:=by
 have sw:∀ use,dv (aV use d).1.files:=fun use=>ED _ _ h
 unfold aJ;split
 ·exact h
 ·split
  ·unfold sH;split
   ·exact sw _
   ·exact pD (sw _)
  ·split
   ·unfold uo;split
    ·split
     ·rename_i m _ _ _ gs _;unfold qv;have hm:dv (cV (aV (dw m) d).1 (gs.getLastD ⟨0,0,0⟩)).1.files:=by
       unfold cV;refine wP ?_ _;split
       ·exact Ki (sw _) _ _
       ·exact sw _
      split
      ·exact sw _
      ·split
       ·exact hm
       ·exact hm
     ·exact h
    ·exact h
   ·exact h
variable {k u:Nat} {f:Int} {S:Txt} {l0:List Pr} {s s':Sto} {M:List SR} {g:Seg} {l:List Rec}
theorem w9 {d:Dsk} (h:dv d.files) (keep:List Int):dv (aG d keep).files:=by
 intro x hx;have hx:x∈kE d.files keep:=hx;unfold kE at hx;rw[List.mem_mapIdx] at hx;obtain⟨i,hi,rfl⟩:=hx;have h1:=h _ (List.getElem_mem hi);have h2:=Aq h1 keep[i]?;simp only[Ed,List.length_take];omega
theorem nT {d:Dsk} (h:dv d.files) (keep:List Int) {n t:Txt} (ht:fm d.files n=some (t,((t.length:Nat):Int))):fm (aG d keep).files n=some (t,((t.length:Nat):Int)):=by
 rcases wc d.files keep h n with⟨h1,_⟩|⟨x,q,c,h1,h2,h3,h4⟩
 ·rw[ht] at h1;cases h1
 ·rw[ht] at h1;cases h1;have:c=t.length:=by omega
  subst this;rw[List.take_length] at h2;exact h2
theorem W.twice (ho:okS k u s) (h:W f S l0 s M g l) (hin:dv s.disk.files) (keep:List Int) (n:Int) (hn:n<9223372036854775808) :
  (aJ (aG s.disk keep)).2=0∧okS k u (aJ (aG s.disk keep)).1∧aJ (aJ (aG s.disk keep)).1.disk=((aJ (aG s.disk keep)).1,0) ∧
   aJ (aG (aJ (aG s.disk keep)).1.disk keep)=((aJ (aG s.disk keep)).1,0)∧aJ (aG (aJ (j0 (aG s.disk keep) n)).1.disk keep)=((aJ (aG s.disk keep)).1,0):=by
 obtain⟨w,h1,h2,h3,h4,h5,h6,h7,h8,h9,h10,h11,h12,_,h14,h15,i1,i2,i3,i4,i5⟩:=h.crash ho hin keep;have hd0:=dp ho.dsk keep;have hc:=wc s.disk.files keep hin;have hdin:=w9 hin keep;have hdd:(aG s.disk keep).down=false:=rfl;have hda:(aG s.disk keep).armed=false:=rfl;have hdc:(aG s.disk keep).cap=s.disk.cap:=rfl;have hdl:(aG s.disk keep).left=0:=rfl;have hcf:(aG s.disk keep).files=kE s.disk.files keep:=rfl;rw[<- hcf] at hc;clear hcf;generalize aG s.disk keep=d at *;have hxin:=rB hdin;obtain⟨q0,hl1,hl2,hl3⟩:=h.last;obtain⟨t,ht⟩:∃ t:Txt,fm d.files (fileN g.base)=some (t,((t.length:Nat):Int)):=by
  rcases hc (fileN g.base) with⟨e1,_⟩|⟨x,q,c,e1,e2,e3,e4⟩
  ·rw[hl1] at e1;cases e1
  ·refine⟨x.take c,?_⟩;rw[e2,List.length_take,Nat.min_eq_left e4]
 have hgb:=(ho.seg _ (h.mem (g,l) (by simp))).1
 have hz:(M.map (·.1)++[(⟨g.base,w,b9 l w⟩:Seg)]).getLastD ⟨0,0,0⟩=⟨g.base,w,b9 l w⟩:=List.getLastD_concat;have hzs:(0:Int)<=(b9 l w:Nat)∧((b9 l w:Nat):Int)<=((t.length:Nat):Int):=by
  refine⟨by omega,?_⟩
  rcases hc (fileN g.base) with⟨e1,_⟩|⟨x,q,c,e1,e2,e3,e4⟩
  ·rw[hl1] at e1;cases e1
  ·rw[hl1] at e1;cases e1;rw[ht] at e2;simp only[Option.some.injEq,Prod.mk.injEq] at e2;obtain⟨w',a1,a2,a3,a4,a5⟩:=tN l g.base (by unfold dy;simp;exact hgb) (h.inv.file (g,l) (by simp)).why (h.inv.file (g,l) (by simp)).num c 0 e4 (by simp[b9,rowS]) (Nat.zero_le _)
   have hr:(aC d.files (fileN g.base)).1=t:=by rw[fA hd0.srt,ht]
   rw[hr,e2.1,a4] at h14;rw[h14,e2.1];rw[List.length_take];omega
 have hgu:fileN g.base∈dw s.man:=(i5 _).2 (.inr (.inl ⟨g,h.mem (g,l) (by simp),rfl⟩))
 obtain⟨hfz,hDc⟩:=CV hd0.srt hdd hda i1 i2 i3 i4 hz ht hzs hgu n;have hD:=(yu (d:=j0 d n) (k:=k) (u:=u) ⟨hd0.len,hd0.srt,by show 0<=(if 0<n then n else 0)∧(if 0<n then n else 0)<9223372036854775808;split <;> omega,hd0.cap,hd0.used⟩).1
 have hDin:=rB (d:=j0 d n) hdin;generalize (aJ (j0 d n)).1.disk=D at *;have hx:aJ d=((aJ d).1,0):=Prod.ext rfl h3;generalize (aJ d).1=x at *;have hxs:x.sure=x.next:=by rw[h9,h10]
 have hsg:x.segs.map Seg.base=s.segs.map Seg.base:=congrArg Man.segs h15;have hrel:∀ n,rel f x n↔rel f s n:=by
  intro n;have:∀ a b:Sto,a.segs.map Seg.base=b.segs.map Seg.base->rel f a n->rel f b n:=by
   intro a b e h;rcases h with h|⟨p,hp,h⟩|h
   ·exact .inl h
   ·have:p.base∈b.segs.map Seg.base:=by rw[<- e];exact List.mem_map_of_mem hp
    obtain⟨p',hp',e'⟩:=List.mem_map.1 this;exact .inr (.inl ⟨p',hp',by rw[h,e']⟩)
   ·exact .inr (.inr h)
  exact⟨this x s hsg,this s x hsg.symm⟩
 have hxk:okS (k+2) (u+800) x:=h12.up (by omega) (by omega)
 refine⟨h3,h12,?_,?_,?_⟩
 ·exact h4.again h12 hxs h5 h6 h8 x.disk h12.dsk h5 h6 rfl h8 fun _ _=>rfl
 ·refine h4.again h12 hxs h5 h6 h8 (aG x.disk keep) (dp h12.dsk keep) rfl rfl rfl rfl fun n hr=>?_
  obtain⟨v,e1,_⟩:=h4.told hxs hr;rw[e1];exact nT (by exact hxin) keep e1
 ·rcases hfz with hf|hf
  ·have hE:∀ n,rel f s n->∀ y q,fm s.disk.files n=some (y,q)->∃ c:Nat,fm (aG D keep).files n=some (y.take c,((c:Nat):Int))∧q<=c∧c<=y.length∧fm d.files n=some (y.take c,((c:Nat):Int)):=by
    intro n hr y q hy;rcases hc n with⟨e1,_⟩|⟨x',q',c,e1,e2,e3,e4⟩
    ·rw[hy] at e1;cases e1
    ·rw[hy] at e1;cases e1;have e5:=(hf n ((i5 n).2 hr)).trans e2;have e6:((c:Nat):Int)=(((y.take c).length:Nat):Int):=by rw[List.length_take,Nat.min_eq_left e4]
     rw[e6] at e5;have e7:=nT hDin keep e5;rw[<- e6] at e7;exact⟨c,e7,e3,e4,e2⟩
   obtain⟨w',g1,g2,g3,g4,g5,g6,g7,g8,g9,g10,_,g12,_,g14,g15,_⟩:=h.torn (k:=k+2) (u:=u+800) (ho.up (by omega) (by omega)) (aG D keep) (dp hD keep) rfl rfl (hDc.trans (by first|exact hdc|exact hdc.trans h7.symm)) rfl fun n hr y q hy=>by
    obtain⟨c,a1,a2,a3,_⟩:=hE n hr y q hy;exact⟨c,a1,a2,a3⟩
   have hww:w'=w:=by
    obtain⟨c,a1,_,_,a4⟩:=hE (fileN g.base) (.inr (.inl ⟨g,h.mem (g,l) (by simp),rfl⟩)) _ _ hl1
    rw[g14,h14,fA (dp hD keep).srt,a1,fA hd0.srt,a4]
   subst hww;have:=h4.one g4 hxs (by rw[g9,g10]) (g15.trans h15.symm) h12.dsk.srt g12.dsk.srt h5 g5 (by rw[g6,h6]) (by rw[g7,h7]) (by rw[g8,h8])
   exact Prod.ext this g3
  ·refine h4.again hxk hxs h5 h6 h8 (aG D keep) (dp hD keep) rfl rfl (hDc.trans (by first|exact hdc|exact hdc.trans h7.symm)) rfl fun n hr=>?_
   obtain⟨v,e1,_⟩:=h4.told hxs hr;rw[e1];refine nT hDin keep ?_;rw[hf n ((i5 n).2 ((hrel n).1 hr))];exact e1
set_option maxRecDepth 20000 in
set_option maxHeartbeats 8000000 in
theorem IT (seg:Nat) (hs:seg<256) (l:List Ac) (hl:l.length<=9223372036854775807) (ha:∀ a∈l,a.ok) (keep:List Int) (hkl:keep.length<=9223372036854775807) (hki:∀ a∈keep,-9223372036854775808<=a∧a<9223372036854775808) (fi at_ tu:Int) (fu:Nat) (hfu:fu<256) (fd:Bool) :
  call 6 [.agg (xJ (seg:Nat) l keep fi at_ tu (fu:Nat) fd)] []=some (vb true,[]):=by
 have q1:=wM seg hs l hl ha keep hkl hki fi at_ tu (fu:Nat) fd;have q0:=vd;have hp:=BE (20+(seg:Int)) l ha;have hw:=I0 (seg:=20+(seg:Int)) (by omega) l ha
 have hin:=Bk (20+(seg:Int)) l;have hcell:∀ s:Sto,s.l=[.d (.l (s.disk.files.map Fil.enc)),.d (.i .i64 s.disk.cap),.d (.b s.disk.armed),.d (.i .i64 s.disk.left),.d (.b s.disk.down),.d (.i .i64 s.ver),.d (.l (s.segs.map Seg.enc)),.d (.i .i64 s.next),.d (.i .i64 s.sure),.d (.i .i64 s.size),.d (.i .u32 s.sum)]:=fun _=>rfl
 have hdl:∀ d:Dsk,d.l=([.d (.l (d.files.map Fil.enc)),.d (.i .i64 d.cap),.d (.b d.armed),.d (.i .i64 d.left),.d (.b d.down)]:List L):=fun _=>rfl
 unfold xJ sZ Pj at *;generalize ku (20+(seg:Int)) l=P at *;obtain⟨st,ok⟩:=P;simp only at hp hin hw;apply ai s6 rfl;by_cases c:ok=true∧keep.length<=300
 ·rw[if_pos c] at q1;obtain⟨f,S,l0,R,M,g,l',hw,_⟩:=hw;obtain⟨n,hn⟩:∃ n:Int,n=((fu:Nat):Int) % 8:=⟨_,rfl⟩;have hn2:0<=n∧n<8:=by omega
  have hn3:((fu:Nat):Int).tmod 8=n:=by rw[hn,Int.tmod_eq_emod_of_nonneg (by omega)]
  obtain⟨a1,a2,a3,a4,a5⟩:=hw.twice hp.ok hin keep n (by omega)
  have hkc:=dp hp.ok.dsk keep;have hci:=w9 hin keep;have q2:=dX (aG st.disk keep) hkc (by decide) (by decide)
  generalize aG st.disk keep=cd at *;have q6:=xA cd n (by omega)
  have hka:okN (10+2*40) (2000+23000*40) (j0 cd n):=⟨hkc.len,hkc.srt,by show 0<=(if 0<n then n else 0)∧(if 0<n then n else 0)<9223372036854775808;split <;> omega,hkc.cap,hkc.used⟩
  have q7:=dX (j0 cd n) hka (by decide) (by decide)
  have hD:=(yu hka).1;have hDi:=rB (d:=j0 cd n) hci;have hxi:=rB hci;generalize j0 cd n=ad at *;have q8:=gX (aJ ad).1.disk (Nat.le_trans hD.len (by decide)) (Nat.le_trans hD.used (by decide)) hDi keep (by omega) hki
  have q9:=dX (aG (aJ ad).1.disk keep) (dp hD keep) (by decide) (by decide)
  rw[a5] at q9;generalize aG (aJ ad).1.disk keep=ed at *;have q3:=dX (aJ cd).1.disk a2.dsk (by decide) (by decide)
  rw[a3] at q3;have q4:=gX (aJ cd).1.disk (Nat.le_trans a2.dsk.len (by decide)) (Nat.le_trans a2.dsk.used (by decide)) hxi keep (by omega) hki
  have q5:=dX (aG (aJ cd).1.disk keep) (dp a2.dsk keep) (by decide) (by decide)
  rw[a4] at q5;have q10:=xj (aJ cd).1 (Nat.le_trans a2.dsk.len (by decide)) (Nat.le_trans a2.len.2 (by decide))
  generalize aG (aJ cd).1.disk keep=xd at *;generalize aJ ad=r2 at *;generalize aJ cd=r at *;obtain⟨x,e⟩:=r;obtain⟨y,e2⟩:=r2;simp only at a1 q2 q3 q4 q5 q7 q8 q9 q10;subst a1;clear a2 a3 a4 a5 hw hp hin hkc hci hka hD hDi hxi;simp only[cM,hcell,hdl] at q1 q2 q3 q4 q5 q6 q7 q8 q9 q10;(simp(disch:=first|decide|omega|(intros;exact rfl)|simp only[aa]) only[aS,a6,q0,q1,q2,q3,q4,q5,q6,q7,q8,q9,q10,hn3,go_sem,seval,aq])
  try simp[trim]
 ·rw[if_neg c] at q1;simp only[hcell] at q1;(simp(disch:=first|decide|omega|(intros;exact rfl)|simp only[aa]) only[aS,a6,q1,q0,go_sem,seval,aq])
  try simp[trim]
theorem JJ (xs:List V) (h:FK [(true,[.i .u8,.l [.i .i64,.i .i64,.i .i64,.s],.l [.i .i64],.i .u8,.i .u16,.i .u8,.i .u8,.b])] xs) :
  ∃ (seg fi at_ tu fu:Nat) (l:List Ac) (keep:List Int) (fd:Bool),xs=[.agg (xJ (seg:Nat) l keep (fi:Nat) (at_:Nat) (tu:Nat) (fu:Nat) fd)]∧seg<256∧l.length<=9223372036854775807∧(∀ a∈l,a.ok)∧keep.length<=9223372036854775807 ∧
   (∀ a∈keep,-9223372036854775808<=a∧a<9223372036854775808)∧fi<256∧at_<65536∧tu<256∧fu<256:=by
 simp only[FK,Nf] at h;obtain⟨_,_,rfl,⟨d,rfl,hd⟩,rfl⟩:=h;simp only[cC,Ee] at hd;obtain⟨_,_,e1,⟨b,rfl,a1,a2⟩,_,_,e2,⟨rows,rfl,hl,hr⟩,_,_,e3,⟨krows,rfl,hkl,hkr⟩,_,_,e4,⟨fi,rfl,b1,b2⟩,_,_,e5,⟨at_,rfl,c1,c2⟩,_,_,e6,⟨tu,rfl,d1,d2⟩,_,_,e7,⟨fu,rfl,f1,f2⟩,_,_,e8,⟨fd,rfl⟩,rfl⟩:=hd;subst e1 e2 e3 e4 e5 e6 e7 e8;obtain⟨l,rfl,ha⟩:=yf Ac.of rows hr;have hkk:∃ keep:List Int,krows=keep.map eI∧∀ a∈keep,-9223372036854775808<=a∧a<9223372036854775808:=by
  clear hkl;induction krows with
  | nil=>exact⟨[],rfl,by simp⟩
  | cons r rs ih =>
   obtain⟨k,e,h⟩:=ih (fun x hx=>hkr x (by simp[hx]))
   have h1:=hkr r (by simp)
   obtain⟨_,_,rfl,⟨n,rfl,n1,n2⟩,rfl⟩:=h1;have n1' : -9223372036854775808<=n:=Int.le_trans (by decide) n1
   have n2':n<9223372036854775808:=Int.lt_of_le_of_lt n2 (by decide)
   refine⟨n::k,by rw[e];rfl,fun a ha=>?_⟩
   rcases List.mem_cons.1 ha with rfl|ha
   ·exact⟨n1',n2'⟩
   ·exact h a ha
 obtain⟨keep,rfl,hki⟩:=hkk;have u:∀ (n:Int) (k:IntKind) (m:Nat),k.min<=n->n<=k.max->k.min=0->k.max<(m:Int)->∃ j:Nat,n=j∧j<m:=fun n k m h1 h2 h3 h4=>⟨n.toNat,by omega,by omega⟩
 obtain⟨b',rfl,hb⟩:=u b .u8 256 a1 a2 rfl (by decide)
 obtain⟨fi',rfl,hfi⟩:=u fi .u8 256 b1 b2 rfl (by decide)
 obtain⟨at',rfl,hat⟩:=u at_ .u16 65536 c1 c2 rfl (by decide)
 obtain⟨tu',rfl,htu⟩:=u tu .u8 256 d1 d2 rfl (by decide)
 obtain⟨fu',rfl,hfu⟩:=u fu .u8 256 f1 f2 rfl (by decide)
 exact⟨b',fi',at',tu',fu',l,keep,fd,rfl,hb,by simpa using hl,ha,by simpa using hkl,hki,hfi,hat,htu,hfu⟩
theorem reopenTwice_pure (xs:List V) (h:FK [(true,[.i .u8,.l [.i .i64,.i .i64,.i .i64,.s],.l [.i .i64],.i .u8,.i .u16,.i .u8,.i .u8,.b])] xs):call 6 xs []=some (vb true,[]):=by
 obtain⟨seg,fi,at_,tu,fu,l,keep,fd,rfl,h1,h2,h3,h4,h5,h6,h7,h8,h9⟩:=JJ xs h;exact IT seg h1 l h2 h3 keep h4 h5 _ _ _ fu h9 fd
end Go.Proofs.YtghfhomfppbooaaGreat
