import Derived.Test.YtgoifbjgmgbihaaGreatT07
import Derived.Test.YtgoifbjgmgbihaaGreatT08
import Derived.Test.YtgoifbjgmgbihaaGreatT03
import Derived.Test.YtgoifbjgmgbihaaGreatT02
import Derived.Test.YtgoifbjgmgbihaaGreatT06
import Derived.Test.YtgoifbjgmgbihaaGreatT05
import Derived.Test.YtgoifbjgmgbihaaGreatVid
set_option linter.unusedSimpArgs false
set_option linter.unusedVariables false
set_option maxRecDepth 20000
set_option maxHeartbeats 16000000
namespace Go.Proofs.YtgoifbjgmgbihaaGreat
open Go.Vi
def dI (l:List Fil):Prop:=∀ x∈l,0<=x.sure∧x.sure<=((x.data.length:Nat):Int)
theorem vX {d:Dsk} (h:dI d.files) {r:List Fil × Int} (hr:r.2=0->dI r.1):dI (ai d r).1.files:=by
 unfold ai;split
 ·exact h
 ·split
  ·exact h
  ·rename_i h0;have h0:r.2=0:=by simpa using h0
   split
   ·split
    ·exact h
    ·exact hr h0
   ·exact hr h0
theorem IY {l:List Fil} (h:dI l) (k:Nat) {f:Fil} (hf:0<=f.sure∧f.sure<=((f.data.length:Nat):Int)):dI (hJ l k f):=by
 intro x hx;unfold hJ at hx;rcases zX.1 hx with hx|hx
 ·exact h x (zZ hx)
 ·rcases List.mem_cons.1 hx with rfl|hx
  ·exact hf
  ·exact h x (List.mem_of_mem_drop hx)
theorem Ke {l:List Fil} (h:dI l) (k:Nat) {f:Fil} (hf:0<=f.sure∧f.sure<=((f.data.length:Nat):Int)):dI (l.set k f):=by
 intro x hx;rcases List.mem_or_eq_of_mem_set hx with hx|rfl
 ·exact h x hx
 ·exact hf
theorem J7 {l:List Fil} (h:dI l) (k:Nat) {g:Fil->Fil} (hg:∀ f:Fil,(0<=f.sure∧f.sure<=((f.data.length:Nat):Int))->(0<=(g f).sure∧(g f).sure<=(((g f).data.length:Nat):Int))):dI (ou l k g):=by
 unfold ou;split
 ·rename_i f hf;exact Ke h k (hg f (h f (List.mem_of_getElem? hf)))
 ·exact h
theorem Dx {l:List Fil} (h:dI l) (k:Nat):dI (fI l k):=by
 intro x hx;unfold fI at hx;rcases zX.1 hx with hx|hx
 ·exact h x (zZ hx)
 ·exact h x (List.mem_of_mem_drop hx)
theorem CA {d:Dsk} (h:dI d.files) (n:Txt):dI (ai d (bB d.files n)).1.files:=vX h fun h0=>by
 unfold bB at h0 ⊢;split at h0
 ·split at h0
  ·cases h0
  ·rename_i h1 h2;rw[if_pos h1,if_neg h2];exact IY h _ (by simp)
 ·cases h0
theorem Co {d:Dsk} (h:dI d.files) (n x:Txt):dI (ai d (bM d.files d.cap n x)).1.files:=vX h fun h0=>by
 unfold bM at h0 ⊢;split at h0
 ·split at h0
  ·cases h0
  ·rename_i h1 h2;rw[if_pos h1,if_neg h2];exact J7 h _ fun f hf=>⟨hf.1,by show f.sure<=(((f.data++x).length:Nat):Int);rw[zA];omega⟩
 ·cases h0
theorem DY {d:Dsk} (h:dI d.files) (n:Txt):dI (ai d (ch d.files n)).1.files:=vX h fun h0=>by
 unfold ch at h0 ⊢;split at h0
 ·rename_i h1;rw[if_pos h1];exact J7 h _ fun f hf=>⟨by show(0:Int)<=((f.data.length:Nat):Int);omega,Int.le_refl _⟩
 ·cases h0
theorem JQ {d:Dsk} (h:dI d.files) (n:Txt):dI (ai d (bN d.files n)).1.files:=vX h fun h0=>by
 unfold bN at h0 ⊢;split at h0
 ·rename_i h1;rw[if_pos h1];exact Dx h _
 ·cases h0
theorem Qv {d:Dsk} (h:dI d.files) (n t:Txt):dI (ai d (i8 d.files n t)).1.files:=vX h fun h0=>by
 unfold i8 at h0 ⊢;split at h0
 ·split at h0
  ·rename_i h1 h2;rw[if_pos h1,if_pos h2];have hf:0<=(eb d.files (au d.files n) t).sure∧(eb d.files (au d.files n) t).sure<=(((eb d.files (au d.files n) t).data.length:Nat):Int):=by
    unfold eb;split
    ·rename_i f hf;exact h f (List.mem_of_getElem? hf)
    ·simp
   simp only[jm];split
   ·exact Ke (Dx h _) _ hf
   ·exact IY (Dx h _) _ hf
  ·cases h0
 ·cases h0
theorem vd {s:Dsk × Int} {f:Dsk->Dsk × Int} (h:dI s.1.files) (hf:dI (f s.1).1.files):dI (tV s f).1.files:=by
 unfold tV;split
 ·exact hf
 ·exact h
theorem tK {s:Dsk × Int} (h:dI s.1.files) (n:Txt):dI (bR n s).1.files:=vd h (CA h n)
theorem n7 {s:Dsk × Int} (h:dI s.1.files) (n:Txt):dI (dH n s).1.files:=vd h (JQ h n)
theorem Ez {s:Dsk × Int} (h:dI s.1.files) (n:Txt):dI (fi n s).1.files:=vd h (DY h n)
theorem Fl {s:Dsk × Int} (h:dI s.1.files) (n x:Txt):dI (fL n x s).1.files:=vd h (Co h n x)
theorem NC {s:Dsk × Int} (h:dI s.1.files) (n t:Txt):dI (wb n t s).1.files:=vd h (Qv h n t)
theorem tS {s:Dsk × Int} (h:dI s.1.files) (n:Txt):dI (cV n s).1.files:=by
 unfold cV;split
 ·exact h
 ·split
  ·exact n7 (s:=(s.1,0)) h n
  ·exact n7 (s:=(s.1,0)) h n
theorem tY {s:Dsk × Int} (h:dI s.1.files) (m:Man):dI (bT m s).1.files:=by
 unfold bT;simp only[];have h1:dI (if s.2=0 then(s.1,(bc m).2) else s).1.files:=by split <;> exact h
 generalize (if s.2=0 then(s.1,(bc m).2) else s)=s1 at *
 have h2:dI (if(az s1.1.files [110]).2=0 then dH [110] s1 else s1).1.files:=by
  split
  ·exact n7 h1 _
  ·exact h1
 generalize (if(az s1.1.files [110]).2=0 then dH [110] s1 else s1)=s2 at *
 have h3:=tK h2 [110];split
 ·exact h3
 ·exact NC (Ez (tS (Fl h3 _ _) _) _) _ _
theorem yp {s:Sto} (h:dI s.disk.files):dI (aW s).1.disk.files:=DY h _
theorem EZ {s:Sto} (h:dI s.disk.files):dI (cC s).1.disk.files:=by
 unfold cC;split
 ·exact h
 ·have h2:=yp h;split
  ·exact h2
  ·generalize (aW s).1=t at *;have h3:dI (eK t).1.files:=by
    unfold eK;have h4:=tK (s:=(t.disk,0)) h2 (fileN t.next);simp only[];split
    ·exact tS (tY h4 _) _
    ·exact h4
   split
   ·exact h3
   ·exact h3
theorem Km {s:Sto} (h:dI s.disk.files) (x:Txt):dI (gc s x).1.disk.files:=by
 have h2:=Co h (fileN s.last.base) x;unfold gc;simp only[];split
 ·exact h2
 ·exact h2
theorem ER {s:Sto} (h:dI s.disk.files) (seg:Int) (r:Rec):dI (eQ s seg r).1.disk.files:=by
 unfold eQ;split
 ·exact h
 ·split
  ·exact h
  ·split
   ·split
    ·exact EZ h
    ·exact Km (EZ h) _
   ·exact Km h _
theorem Kk:∀ (l:List Txt) (s:Dsk × Int),dI s.1.files->dI (tZ l s).1.files
 | [],s,h=>h
 | n::l,s,h=>Kk l _ (n7 h n)
theorem E7:∀ (l:List Seg) (s:Dsk × Int),dI s.1.files->dI (AY l s).1.files
 | [],s,h=>h
 | n::l,s,h=>E7 l _ (n7 h _)
theorem Me {s:Sto} (h:dI s.disk.files) (a b:Int):dI (cY s a b).1.disk.files:=by
 unfold cY;split
 ·exact h
 ·generalize eR s.segs a b=k;unfold sI;have h2:dI (mU s.disk (aC (aL s.segs k)) (aX (bC s (aL s.segs k))) (eJ s k).man).1.files:=by
   unfold mU;simp only[];have h4:=tK (s:=(s.disk,0)) h (aC (aL s.segs k));generalize bR (aC (aL s.segs k)) (s.disk,0)=q at *;have h5:dI (if q.2=0 then cV (aC (aL s.segs k)) (fL (aC (aL s.segs k)) (aX (bC s (aL s.segs k))) q) else q).1.files:=by
    split
    ·exact tS (Fl h4 _ _) _
    ·exact h4
   generalize (if q.2=0 then cV (aC (aL s.segs k)) (fL (aC (aL s.segs k)) (aX (bC s (aL s.segs k))) q) else q)=q2 at *
   have h6:=Ez h5 (aC (aL s.segs k));split
   ·exact tS (tY h6 _) _
   ·exact h6
  generalize mU s.disk (aC (aL s.segs k)) (aX (bC s (aL s.segs k))) (eJ s k).man=e at *;simp only[];split
  ·exact h2
  ·show dI (xY s k e).1.files;unfold xY;have h7:=E7 (s.segs.take k) e h2;simp only[];split
   ·exact n7 h7 _
   ·exact h7
theorem xW:∀ (l:List Txt) (d:Dsk),dI d.files->dI (di l d).1.files
 | [],d,h=>h
 | n::l,d,h=>by
  have h2:=JQ h n;simp only[di];split
  ·exact h2
  ·exact xW l _ h2
theorem QZ {d:Dsk} (h:dI d.files) (n g x:Txt) (m:Man):dI (u0 n g x m d).1.1.files:=by
 have p4:∀ d:Dsk,dI d.files->dI (u4 n g m d).1.1.files:=fun d h=>by
  have h2:=tY (s:=(d,0)) h m;unfold u4;split
  ·exact xW _ _ h2
  ·exact h2
 have p3:∀ d:Dsk,dI d.files->dI (u3 n g m d).1.1.files:=fun d h=>by
  have h2:=CA h g;unfold u3;split
  ·exact h2
  ·exact p4 _ h2
 have p2:∀ d:Dsk,dI d.files->dI (u2 n g m d).1.1.files:=fun d h=>by
  have h2:=DY h n;unfold u2;split
  ·exact h2
  ·exact p3 _ h2
 have p1:∀ d:Dsk,dI d.files->dI (u1 n g x m d).1.1.files:=fun d h=>by
  have h2:=Co h n x;unfold u1;split
  ·exact xW _ _ h2
  ·split
   ·exact h2
   ·exact p2 _ h2
 have h2:=CA h n;unfold u0;split
 ·exact h2
 ·exact p1 _ h2
theorem Er {s:Sto} (h:dI s.disk.files) (at_:Int) (x:Txt):dI (bw s at_ x).1.disk.files:=by
 unfold bw;split
 ·exact h
 ·have h2:=QZ h (aC at_) (fileN at_) x (fZ (s.ver+1) at_ x).man;split
  ·exact h2
  ·show dI (Ah _ _).1.files;rw[tR];exact Kk _ _ h2
theorem G6 {d:Dsk} (h:dI d.files):dI (aH d).1.disk.files:=by
 unfold aH;simp only[];have h1:=tK (s:=(d,0)) h (fileN 0);generalize bR (fileN 0) (d,0)=q at *;have h2:dI (if q.2=0 then bT ⟨1,[0],0,0⟩ q else q).1.files:=by
  split
  ·exact tY h1 _
  ·exact h1
 generalize (if q.2=0 then bT ⟨1,[0],0,0⟩ q else q)=q2 at *
 split
 ·exact h2
 ·exact h2
def HL (f:Fil) (k:Option Int):Int:=match k with|some a=>max 0 (min a ((f.data.length:Nat)-f.sure))|none=>0
def IA (f:Fil) (k:Option Int):Fil:=⟨f.name,f.data.take (f.sure+HL f k).toNat,f.sure+HL f k⟩
def mV (l:List Fil) (keep:List Int):List Fil:=l.mapIdx fun i f=>IA f keep[i]?
def bO (d:Dsk) (keep:List Int):Dsk:=⟨mV d.files keep,d.cap,false,0,false⟩
theorem Ju {f:Fil} (h:0<=f.sure∧f.sure<=((f.data.length:Nat):Int)) (k:Option Int):0<=HL f k∧f.sure+HL f k<=((f.data.length:Nat):Int):=by
 unfold HL;cases k with
 | none=>simp only[];omega
 | some a=>simp only[];omega
theorem zg (l:List Fil) (keep:List Int):(mV l keep).length=l.length:=by simp[mV]
theorem Oo (l:List Fil) (keep:List Int) (i:Nat) (h:i<l.length):(mV l keep).take (i+1)=(mV l keep).take i++[IA l[i] keep[i]?]:=by
 rw[zO (by rw[zg];exact h)]
 simp[mV]
theorem tg (d:Dsk) (hl:d.files.length<=1000000) (hu:usedF d.files<=1000000000000) (hin:dI d.files) (keep:List Int) (hk:keep.length<=1000000) (hki:∀ a∈keep,-9223372036854775808<=a∧a<9223372036854775808):call 16 [.agg d.l,vl (keep.map eI)] []=some (.agg (bO d keep).l,[]):=by
 obtain⟨Z,hZ⟩:∃ Z,Z=(bO d keep).l:=⟨_,rfl⟩;rw[<- hZ];unfold bO at hZ;obtain⟨fl,cp,ar,lf,dn⟩:=d;simp only[Dsk.l] at hl hu hin hZ ⊢;apply ae Wb rfl;refine bh ?_ UQ.eq_1;refine aq (m:=0) (σ:=Nat) (fun i=>fl.length-i) (fun i=>i<=fl.length) (fun i=>[vl (keep.map eI),V.one (.p 0 0),V.one (.p 1 0),V.one (.sl 2 3 0 ((mV fl keep).take i).length),vi i])
  (fun i=>[.cells [.d (.l (fl.map Fil.enc)),zI cp,zB ar,zI lf,zB dn],.cells [.ns,zI 0,zB false,zI 0,zB false],.arr 3 (((mV fl keep).take i).map Fil.enc) 0]) (fun _=>(V.agg Z,[])) ?_ 0 (zP _) _ _ bA
 intro i h1 R hR;have hcl:=zg fl keep;by_cases hi:i<fl.length
 ·have hc:(i:Int)<(fl.length:Int):=by omega
  have g1:(fl.map Fil.enc)[i]?=some fl[i].enc:=by rw[zG,zE hi];rfl
  have hR':=hR (i+1) (by omega) (by omega)
  rw[Oo fl keep i hi] at hR';have hlen:(((mV fl keep).take i).map Fil.enc).length=((mV fl keep).take i).length:=by simp
  have hl2:((mV fl keep).take i).length<=1000000:=by simp;omega
  have hx:=hin _ (zN hi);have hd:=Nat.le_trans (nP fl i hi) hu;have hcn:=Ju hx keep[i]?;have e2:((mV fl keep).take i++[IA fl[i] keep[i]?]).map Fil.enc=((mV fl keep).take i).map Fil.enc++[[.s fl[i].name,.s (fl[i].data.take (fl[i].sure+HL fl[i] keep[i]?).toNat),.i .i64 (fl[i].sure+HL fl[i] keep[i]?)]]:=by rw[List.map_append];rfl
  have e3:((mV fl keep).take i++[IA fl[i] keep[i]?]).length=((mV fl keep).take i).length+1:=by rw[zA];rfl
  rw[e2,e3] at hR';have hkl:(keep.map eI).length=keep.length:=by simp
  generalize ((mV fl keep).take i).length=n at *;generalize ((mV fl keep).take i).map Fil.enc=Q at *;clear e2 e3;generalize fl[i]=w at *;obtain⟨a,b,c⟩:=w;simp only[Fil.enc] at g1 hx hd hcn hR';by_cases ck:i<keep.length
  ·have hck:(i:Int)<(keep.length:Int):=by omega
   have g2:(keep.map eI)[i]?=some [.i .i64 keep[i]]:=by rw[zG,zE ck];rfl
   rw[zE ck] at hR' hcn;have hkk:=hki _ (zN ck);obtain⟨z,hz⟩:∃ z,z=HL ⟨a,b,c⟩ (some keep[i]):=⟨_,rfl⟩;rw[<- hz] at hR' hcn;have hz2:z=max 0 (min keep[i] ((b.length:Nat)-c)):=hz;clear hz;generalize keep[i]=y at *;have ht:(b.take (c+z).toNat).length=(c+z).toNat:=by simp;omega
   have hcz:(((c+z).toNat:Nat):Int)=c+z:=by omega
   by_cases m1:((b.length:Nat):Int)-c<y
   ·by_cases m2:(0:Int)<((b.length:Nat):Int)-c
    ·have m3:z=((b.length:Nat):Int)-c:=by omega
     rw[m3] at hR' ht hcz;refine bh ?_ vN.eq_1 (zT hc) @zM g1 hkl (zT hck) g2 hlen (Ta m1) (Ta m2) ht hcz;exact hR' _ _ bA
    ·have m3:z=0:=by omega
     rw[m3] at hR' ht hcz;refine bh ?_ vN.eq_1 (zT hc) @zM g1 hkl (zT hck) g2 hlen (Ta m1) (Tj m2) ht hcz;exact hR' _ _ bA
   ·by_cases m2:(0:Int)<y
    ·have m3:z=y:=by omega
     rw[m3] at hR' ht hcz;refine bh ?_ vN.eq_1 (zT hc) @zM g1 hkl (zT hck) g2 hlen (Tj m1) (Ta m2) ht hcz;exact hR' _ _ bA
    ·have m3:z=0:=by omega
     rw[m3] at hR' ht hcz;refine bh ?_ vN.eq_1 (zT hc) @zM g1 hkl (zT hck) g2 hlen (Tj m1) (Tj m2) ht hcz;exact hR' _ _ bA
  ·have hck:¬ (i:Int)<(keep.length:Int):=by omega
   rw[List.getElem?_eq_none (by omega)] at hR' hcn
   simp only[HL,Int.add_zero] at hR' hcn;have ht:(b.take c.toNat).length=c.toNat:=by simp;omega
   have hcz:((c.toNat:Nat):Int)=c:=by omega
   refine bh ?_ vN.eq_1 (zT hc) @zM g1 hkl (zF hck) hlen ht hcz @Int.add_zero;exact hR' _ _ bA
 ·have hc:¬ (i:Int)<(fl.length:Int):=by omega
  have ht:(mV fl keep).take i=mV fl keep:=zL (by omega)
  rw[ht];have htk:List.take (mV fl keep).length ((mV fl keep).map Fil.enc)=(mV fl keep).map Fil.enc:=zL (by simp)
  have hln:((mV fl keep).map Fil.enc).length=(mV fl keep).length:=by simp
  rw[hZ];refine bh ?_ vN.eq_1 UQ.eq_1 (zF hc) @zM htk hln;try simp[trim]
theorem Bq (a:Fil) (l:List Fil) (keep:List Int):mV (a::l) keep=IA a keep[0]?::mV l keep.tail:=by
 unfold mV;rw[List.mapIdx_cons];congr 1
 congr 1
 funext i f
 cases keep with
 | nil=>simp
 | cons b r=>simp
theorem JO:∀ (l:List Fil) (keep:List Int),dI l->∀ n,(fm l n=none∧fm (mV l keep) n=none)∨(∃ (x:Txt) (q:Int) (c:Nat),fm l n=some (x,q)∧fm (mV l keep) n=some (x.take c,((c:Nat):Int))∧q<=c∧c<=x.length)
 | [],keep,_,n=>.inl ⟨rfl,rfl⟩
 | a::l,keep,h,n=>by
  rw[Bq];by_cases e:a.name=n
  ·have h1:=h a (by simp)
   have h2:=Ju h1 keep[0]?;refine .inr ⟨a.data,a.sure,(a.sure+HL a keep[0]?).toNat,by simp[fm,e],?_,by omega,by omega⟩
   have:(((a.sure+HL a keep[0]?).toNat:Nat):Int)=a.sure+HL a keep[0]?:=by omega
   rw[this];simp[fm,IA,e]
  ·have e1:fm (a::l) n=fm l n:=by simp[fm,e]
   have e2:fm (IA a keep[0]?::mV l keep.tail) n=fm (mV l keep.tail) n:=by simp[fm,IA,e]
   rw[e1,e2];exact JO l keep.tail (fun x hx=>h x (by simp[hx])) n
theorem GM (l:List Fil) (keep:List Int):(mV l keep).map Fil.name=l.map Fil.name:=by
 apply List.ext_getElem
 ·simp[mV]
 ·intro i h1 h2;simp[mV,IA]
theorem BE:∀ (l:List Fil) (keep:List Int),usedF (mV l keep)<=usedF l
 | [],keep=>Nat.le_refl _
 | a::l,keep=>by
  rw[Bq];have h1:=BE l keep.tail;have e1:∀ (b:Fil) (m:List Fil),usedF (b::m)=b.data.length+usedF m:=fun b m=>by rw[<- gM,<- cW];rfl
  rw[e1,e1];have:(IA a keep[0]?).data.length<=a.data.length:=by simp[IA];omega
  omega
theorem rH {k u:Nat} {d:Dsk} (h:okN k u d) (keep:List Int):okN k u (bO d keep) :=
 ⟨by show(mV d.files keep).length<=k;rw[zg];exact h.len,jK (GM _ _) h.srt,⟨Int.le_refl _,by show(0:Int)<_;decide⟩,h.cap,Nat.le_trans (BE _ _) h.used⟩
theorem AX (a b:List Rec):rowS (a++b)=rowS a++rowS b:=List.flatMap_append
theorem GY (l:List Rec) {a b:Nat} (h:a<=b):dh l a<=dh l b:=by
 unfold dh;have:l.take b=l.take a++(l.take b).drop a:=by
  conv=>lhs;rw[<- zY a (l.take b)]
  rw[List.take_take,Nat.min_eq_left h]
 rw[this,AX,zA];omega
theorem zw (l:List Rec) (c:Nat):∀ m,m<=l.length->∃ w,w<=l.length∧dh l w<=c∧(w<l.length->c<dh l (w+1))∨(dh l m<=c∧w=m∧m<=l.length)
 | 0,_=>⟨0,.inr ⟨by simp[dh,rowS],rfl,Nat.zero_le _⟩⟩
 | m+1,h=>by
  obtain⟨w,h1|⟨h1,rfl,h2⟩⟩:=zw l c m (by omega)
  ·exact⟨w,.inl h1⟩
  ·by_cases h3:dh l (w+1)<=c
   ·exact⟨w+1,.inr ⟨h3,rfl,h⟩⟩
   ·exact⟨w,.inl ⟨by omega,h1,fun _=>by omega⟩⟩
theorem KP (l:List Rec) (c:Nat):∃ w,w<=l.length∧dh l w<=c∧(w<l.length->c<dh l (w+1)):=by
 obtain⟨w,h|⟨h1,rfl,h2⟩⟩:=zw l c l.length (Nat.le_refl _)
 ·exact⟨w,h⟩
 ·exact⟨l.length,Nat.le_refl _,h1,fun h=>by omega⟩
theorem Cd (l:List Rec) (b:Int) (hb:ef b=true) (hw:∀ r∈l,whyF r=0) (hn:numB b l) (c m:Nat) (hc:c<=(rowS l).length) (hm:dh l m<=c) (hml:m<=l.length) :
  ∃ w,m<=w∧w<=l.length∧dh l w<=c∧(cD ((rowS l).take c) b).1.length=w∧(cD ((rowS l).take c) b).2.1=dh l w:=by
 obtain⟨w,h1,h2,h3⟩:=KP l c;have hcut:=Ko l b hb hw hn w c h1 h2 (fun h=>by rw[h];unfold dh;rw[List.take_length];exact hc) h3
 refine⟨w,?_,h1,h2,?_,by rw[hcut.2]⟩
 ·rcases Nat.lt_or_ge w m with h|h
  ·have:=GY l (show w+1<=m by omega)
   have:=h3 (by omega)
   omega
  ·exact h
 ·have:=congrArg List.length hcut.1;simp at this;omega
theorem GT {d:Dsk} (hs:srt d.files) {p:SR} (hb:ef p.1.base=true) (hf:∃ q,fm d.files (fileN p.1.base)=some (rowS p.2,q)) (hw:∀ r∈p.2,whyF r=0) (hn:numB p.1.base p.2) (h1:p.1.n=p.2.length) (h2:p.1.size=(rowS p.2).length) :
  iF d p.1.base=(p.1,0)∧(az d.files (fileN p.1.base)).2=0:=by
 obtain⟨q,hf⟩:=hf;have hr:az d.files (fileN p.1.base)=(rowS p.2,0):=by rw[kG hs,hf]
 have hsc:=AE p.2 p.1.base hb hw hn;have hl:(cD (rowS p.2) p.1.base).1.length=p.2.length:=by
  have:=congrArg List.length hsc.1;simpa using this
 unfold iF;rw[hr];simp only[hl,hsc.2];refine⟨?_,trivial⟩;obtain⟨⟨a,b,c⟩,rs⟩:=p;simp only at h1 h2 ⊢;rw[h1,h2]
theorem tn {d:Dsk} {g:Int} {z:Seg} (hz:(az d.files (fileN g)).2=0) (hg:(iF d g).1=z):∀ (M:List SR) (b:Int),chainM b M g->(∀ p∈M,iF d p.1.base=(p.1,0)∧(az d.files (fileN p.1.base)).2=0)->(∀ p∈M,p.1.n=p.2.length) ->
  gH d (M.map (fun p=>p.1.base)++[g])=some (M.map (·.1)++[z])
 | [],b,_,_,_=>by
  rw[List.map_nil,List.nil_append,km,if_neg (by simp[hz])]
  simp[hg]
 | p::M,b,hc,hp,hn=>by
  have h1:=hp p (by simp)
  have ih:=tn hz hg M (b+p.2.length) hc.2.2 (fun q hq=>hp q (by simp[hq])) (fun q hq=>hn q (by simp[hq]))
  have hpn:=hn p (by simp)
  have hnx:∃ r,M.map (fun p=>p.1.base)++[g]=(b+p.2.length)::r:=by
   have h2:=hc.2.2;cases M with
   | nil=>exact⟨[],by simp[chainM] at h2 ⊢;omega⟩
   | cons q r=>exact⟨r.map (fun p=>p.1.base)++[g],by simp[chainM] at h2 ⊢;omega⟩
  obtain⟨r,hr⟩:=hnx;rw[List.map_cons,List.cons_append,km,if_neg (by simp[h1.2]),hr]
  simp only[];rw[if_neg (by rw[h1.1,hc.1];simp[hpn]),<- hr,ih,h1.1]
  try rfl
variable {k u:Nat} {f:Int} {S:Txt} {l0:List Pr} {s:Sto} {M:List SR} {g:Seg} {l:List Rec}
theorem Mq {d:Dsk} (hs:srt d.files) {n:Txt} {v:Txt × Int} (h:fm d.files n=some v) {e:Int} (he:0<=e∧e<=((v.1.length:Nat):Int)):Out d (ai d (vW d.files n e)) [] (up (fm d.files) n (some (v.1.take e.toNat,if e<v.2 then e else v.2))) none:=by
 have hf:bS d.files n=true:=by rw[mj hs,h];rfl
 have hr:az d.files n=(v.1,0):=by rw[kG hs,h]
 have e2:vW d.files n e=(ou d.files (au d.files n) (fun f=>{ f with data:=f.data.take e.toNat,sure:=if e<f.sure then e else f.sure }),0):=by
  unfold vW;rw[if_pos hf,hr,if_neg (by simp only[];omega)]
 have hu:=DO hs h (fun f=>{ f with data:=f.data.take e.toNat,sure:=if e<f.sure then e else f.sure }) (fun _=>rfl)
 rw[e2];exact n9 hs rfl hu.1 hu.2
theorem Out.done {d:Dsk} {r:Dsk × Int} {X:List Txt} {G:FM} (h:Out d r X G none) (ha:d.armed=false) (hd:d.down=false):r.2=0∧r.1.down=false∧fm r.1.files=G∧r.1.cap=d.cap∧r.1.armed=false∧r.1.left=d.left∧srt r.1.files:=by
 have hi:=h.1.idle ha hd;rcases h.2.2 with⟨h1,h2,h3⟩|⟨_,hc,_⟩|⟨_,h2,_⟩
 ·exact⟨h1,h2,h3,h.1.cap,h.1.armed.trans ha,hi.2,h.2.1⟩
 ·cases hc
 ·rw[hi.1] at h2;cases h2
theorem rG {l:List Fil} (h:srt l):(cR l).Nodup:=by
 unfold cR List.Nodup;rw[List.pairwise_map];refine List.Pairwise.imp ?_ h;intro a b hab e;rw[e,ml] at hab;cases hab
theorem BO {use:List Txt} {n:Txt}:mM use n=true↔n∈use:=by
 unfold mM;rw[List.any_eq_true];constructor
 ·rintro⟨x,hx,e⟩;have:x=n:=by simpa using e
  exact this ▸ hx
 ·intro h;exact⟨n,h,by simp⟩
theorem CV {d:Dsk} (hs:srt d.files) (use:List Txt) (ha:d.armed=false) (hd:d.down=false) :
  (bZ use d).2=0∧(bZ use d).1.down=false∧(∀ n,fm (bZ use d).1.files n=if n∈use then fm d.files n else none)∧(bZ use d).1.cap=d.cap∧(bZ use d).1.armed=false∧(bZ use d).1.left=d.left∧srt (bZ use d).1.files:=by
 have hmem:∀ n,n∈cR d.files↔fm d.files n≠none:=by
  intro n;rw[Ne,tC];unfold cR;rw[List.mem_map];constructor
  ·rintro⟨x,hx,e⟩ h;exact h x hx e
  ·intro h;have ⟨x,hx⟩:∃ x∈d.files,x.name=n:=by
    apply Classical.byContradiction;intro hc;exact h fun x hx e=>hc ⟨x,hx,e⟩
   exact⟨x,hx⟩
 have hO:=tQ ((cR d.files).filter fun n => !mM use n) d hs ((rG hs).sublist List.filter_sublist) hd (fun n hn=>(hmem n).1 (List.mem_filter.1 hn).1)
 have h:=hO.done ha hd;refine⟨h.1,h.2.1,fun n=>?_,h.2.2.2⟩
 have h3:fm (bZ use d).1.files=_:=h.2.2.1;rw[h3];unfold B9;by_cases c:n∈use
 ·rw[if_pos c,if_neg];intro hn;have:=(List.mem_filter.1 hn).2;rw[BO.2 c] at this;cases this
 ·rw[if_neg c];by_cases c2:fm d.files n=none
  ·rw[c2];split <;> rfl
  ·rw[if_pos];refine List.mem_filter.2 ⟨(hmem n).2 c2,?_⟩;cases hk:mM use n with
   | false=>rfl
   | true=>exact absurd (BO.1 hk) c
theorem FS {d:Dsk} (hs:srt d.files) (ha:d.armed=false) (hd:d.down=false) (z:Seg) {x:Txt} {q:Int} (h:fm d.files (fileN z.base)=some (x,q)) (hz:0<=z.size∧z.size<=((x.length:Nat):Int)) :
  (ig d z).2=0∧(ig d z).1.down=false∧fm (ig d z).1.files=up (fm d.files) (fileN z.base) (some (x.take z.size.toNat,z.size))∧(ig d z).1.cap=d.cap∧(ig d z).1.armed=false∧(ig d z).1.left=d.left∧srt (ig d z).1.files:=by
 have hr:(az d.files (fileN z.base)).1=x:=by rw[kG hs,h]
 unfold ig;rw[hr];have hl:(((x.take z.size.toNat).length:Nat):Int)=z.size:=by rw[zQ];omega
 by_cases c:z.size<((x.length:Nat):Int)
 ·rw[if_pos c];have h1:=(Mq hs h hz).done ha hd;generalize ai d (vW d.files (fileN z.base) z.size)=r at *;obtain⟨e1,e2,e3,e4,e5,e6,e7⟩:=h1;rw[gO e1];have h2:=(my e7 (n:=fileN z.base) (v:=(x.take z.size.toNat,if z.size<q then z.size else q)) (by rw[e3,db])).done e5 e2
  have e0:fi (fileN z.base) (r.1,0)=ai r.1 (ch r.1.files (fileN z.base)):=bD _ _;rw[e0];refine⟨h2.1,h2.2.1,?_,h2.2.2.2.1.trans e4,h2.2.2.2.2.1,h2.2.2.2.2.2.1.trans e6,h2.2.2.2.2.2.2⟩;rw[h2.2.2.1,e3,jk,hl]
 ·rw[if_neg c];have h2:=(my hs h).done ha hd;have e0:fi (fileN z.base) (d,0)=ai d (ch d.files (fileN z.base)):=bD _ _;rw[e0];refine⟨h2.1,h2.2.1,?_,h2.2.2.2⟩;have hx:x.take z.size.toNat=x:=zL (by omega)
  have hzl:z.size=((x.length:Nat):Int):=by omega
  rw[h2.2.2.1,hx,hzl]
theorem Ir {l:List Int} {a:Int} (h:l.head?=some a):l.headD 0=a:=by
 cases l with
 | nil=>cases h
 | cons b r=>exact Option.some.inj h
theorem W.torn (ho:okS k u s) (h:W f S l0 s M g l) (d:Dsk) (hks:okN k u d) (hdn:d.down=false) (har:d.armed=false) (hcp:d.cap=s.disk.cap) (hlf:d.left=0)
  (hfm:∀ n,rel f s n->∀ x q,fm s.disk.files n=some (x,q)->∃ c:Nat,fm d.files n=some (x.take c,((c:Nat):Int))∧q<=c∧c<=x.length) :
  ∃ w,(s.sure-g.base).toNat<=w∧w<=l.length∧(cN d).2=0∧W f S l0 (cN d).1 M ⟨g.base,w,dh l w⟩ (l.take w) ∧
   (cN d).1.disk.down=false∧(cN d).1.disk.armed=false∧(cN d).1.disk.cap=s.disk.cap∧(cN d).1.disk.left=0 ∧
   (cN d).1.next=g.base+w∧(cN d).1.sure=g.base+w∧(cN d).1.ver=s.ver∧okS k u (cN d).1∧(∀ m,cJ (az d.files [109]).1=some m->m.ok)∧w=(cD (az d.files (fileN g.base)).1 g.base).1.length∧(cN d).1.man=s.man∧((az d.files [109]).2=0∧cJ (az d.files [109]).1=some s.man∧rZ d s.man=true∧gH d s.man.segs=some (M.map (·.1)++[⟨g.base,w,dh l w⟩])∧∀ n,n∈dM s.man↔rel f s n):=by
 have hs:=hks.srt;have hwhole:∀ n x,rel f s n->fm s.disk.files n=some (x,((x.length:Nat):Int))->fm d.files n=some (x,((x.length:Nat):Int)):=by
  intro n x hr hx;obtain⟨c,h2,h3,h4⟩:=hfm n hr x _ hx;have hc:c=x.length:=by omega
  subst hc;rw[List.take_length] at h2;exact h2
 have hrf:∀ p∈M++[(g,l)],rel f s (fileN p.1.base):=fun p hp=>.inr (.inl ⟨p.1,h.mem p hp,rfl⟩)
 have hmb:=iE h.right;have hmo:s.man.ok:=⟨by have:=hmb.2.1.2;omega,ho.sum⟩
 have hman:=hwhole _ _ (.inl rfl) h.man;have hrd:az d.files [109]=(aT s.man,0):=by rw[kG hs,hman]
 have hdec:cJ (aT s.man)=some s.man:=pD h.right hmo;have hhead:s.man.segs.headD 0=f:=Ir h.head;have hf0:0<=f:=by
  have:=h.man_inc.2 f (by have:=h.head;exact List.mem_of_mem_head? this)
  omega
 have hbase:∀ p∈M++[(g,l)],ef p.1.base=true:=by
  intro p hp;have:=(ho.seg _ (h.mem p hp)).1;unfold ef;simp;exact this
 have hsnap:rZ d s.man=true:=by
  rw[iK,hhead];intro hf;rcases h.snp with⟨h1,_⟩|⟨_,h2,h3,h4,h5⟩
  ·omega
  ·have:=hwhole _ _ (.inr (.inr ⟨by assumption,rfl⟩)) h2
   have hr:az d.files (aC f)=(S,0):=by rw[kG hs,this]
   rw[hr];exact⟨rfl,h4.symm,h5.symm⟩
 obtain⟨q0,hl1,hl2,hl3⟩:=h.last;have hsu:=h.inv.sure;have hnx:=h.inv.next;have hlo:=h.lo;have hfile:=h.inv.file (g,l) (by simp)
 obtain⟨c,hc1,hc2,hc3⟩:∃ c:Nat,fm d.files (fileN g.base)=some ((rowS l).take c,((c:Nat):Int))∧q0<=c∧c<=(rowS l).length:=by
  obtain⟨c,h2,h3,h4⟩:=hfm _ (hrf (g,l) (by simp)) _ _ hl1
  exact⟨c,h2,by omega,h4⟩
 have hrl:az d.files (fileN g.base)=((rowS l).take c,0):=by rw[kG hs,hc1]
 obtain⟨w,hw1,hw2,hw3,hw4,hw5⟩:=Cd l g.base (hbase (g,l) (by simp)) hfile.why hfile.num c (s.sure-g.base).toNat hc3 (Nat.le_trans hl2 hc2) (by omega)
 have hsegT:(iF d g.base).1=⟨g.base,w,dh l w⟩:=by
  unfold iF;rw[hrl];simp only[hw4,hw5]
 have hms:s.man.segs=M.map (fun p=>p.1.base)++[g.base]:=by
  show s.segs.map Seg.base=_;rw[h.inv.segs];simp
 have hsegs:gH d s.man.segs=some (M.map (·.1)++[⟨g.base,w,dh l w⟩]):=by
  rw[hms];refine tn (by rw[hrl]) hsegT M f h.inv.chain (fun p hp=>?_) (fun p hp=>(h.inv.file p (List.mem_append_left _ hp)).n)
  have hp2:=h.inv.file p (List.mem_append_left _ hp);exact GT hs (hbase p (List.mem_append_left _ hp)) ⟨_,hwhole _ _ (hrf p (List.mem_append_left _ hp)) (h.full p hp)⟩ hp2.why hp2.num hp2.n hp2.size
 have hlast:(M.map (·.1)++[(⟨g.base,w,dh l w⟩:Seg)]).getLastD ⟨0,0,0⟩=⟨g.base,w,dh l w⟩:=List.getLastD_concat;have hsw:=CV hs (dM s.man) har hdn;have huse:∀ n,n∈dM s.man↔(n=[109]∨(∃ p∈M++[(g,l)],n=fileN p.1.base)∨(0<f∧n=aC f)):=by
  intro n;unfold dM fC;rw[hhead,hms];constructor
  ·intro hn;rcases zX.1 hn with hn|hn
   ·rcases List.mem_cons.1 hn with rfl|hn
    ·exact .inl rfl
    ·split at hn
     ·rename_i hf;exact .inr (.inr ⟨hf,zV.1 hn⟩)
     ·cases hn
   ·obtain⟨b,hb,rfl⟩:=List.mem_map.1 hn;refine .inr (.inl ?_);rcases zX.1 hb with hb|hb
    ·obtain⟨p,hp,rfl⟩:=List.mem_map.1 hb;exact⟨p,List.mem_append_left _ hp,rfl⟩
    ·rw[zV.1 hb];exact⟨(g,l),by simp,rfl⟩
  ·rintro(rfl|⟨p,hp,rfl⟩|⟨hf,rfl⟩)
   ·simp
   ·refine List.mem_append_right _ (List.mem_map_of_mem ?_);rcases zX.1 hp with hp|hp
    ·exact List.mem_append_left _ (List.mem_map_of_mem (f:=fun p:SR=>p.1.base) hp)
    ·rw[zV.1 hp];simp
   ·rw[if_pos hf];simp
 have hgu:fileN g.base∈dM s.man:=(huse _).2 (.inr (.inl ⟨(g,l),by simp,rfl⟩))
 have hel:dh l w<=c:=hw3;have hcl:((rowS l).take c).length=c:=by rw[zQ];omega
 have hmd:=FS hsw.2.2.2.2.2.2 hsw.2.2.2.2.1 hsw.2.1 ⟨g.base,w,dh l w⟩ (x:=(rowS l).take c) (q:=c) (by rw[hsw.2.2.1,if_pos hgu];exact hc1) (by simp only[];omega)
 have hop:cN d=(⟨(ig (bZ (dM s.man) d).1 ⟨g.base,w,dh l w⟩).1,s.man.ver,M.map (·.1)++[⟨g.base,w,dh l w⟩],g.base+w,g.base+w,s.man.size,s.man.sum⟩,0):=by
  unfold cN;rw[if_neg (by simp[hdn]),hrd]
  simp only[hdec];rw[if_neg (by simp)]
  unfold Bf;rw[if_pos hsnap,hsegs];simp only;unfold Ed;rw[if_neg (by simp[hsw.1]),hlast,if_neg (by simp[hmd.1])]
 rw[hop];generalize hD:(ig (bZ (dM s.man) d).1 ⟨g.base,w,dh l w⟩).1=D' at *;obtain⟨m1,m2,m3,m4,m5,m6,m7⟩:=hmd;have hrow:((rowS l).take c).take (((dh l w:Nat):Int)).toNat=rowS (l.take w):=by
  have e:rowS l=rowS (l.take w)++rowS (l.drop w):=by rw[<- AX,zY]
  rw[Int.toNat_natCast,List.take_take,Nat.min_eq_left hel];rw[e];exact List.take_left' rfl
 simp only[hrow] at m3;have hfl:fm D'.files (fileN g.base)=some (rowS (l.take w),(((rowS (l.take w)).length:Nat):Int)):=by rw[m3,db];rfl
 have hoth:∀ n,n∈dM s.man->n≠fileN g.base->fm D'.files n=fm d.files n:=by
  intro n hn hne;rw[m3,bv _ _ hne,hsw.2.2.1,if_pos hn]
 have hMd:∀ p∈M,fileN p.1.base≠fileN g.base:=by
  intro p hp e;have:=pL h.inv.chain p hp;have h1:=(ho.seg _ (h.mem p (List.mem_append_left _ hp))).1;have h2:=(ho.seg _ (h.mem (g,l) (by simp))).1
  have:p.1.base=g.base:=dZ h1 h2 e;omega
 have hMf:∀ p∈M,fm D'.files (fileN p.1.base)=some (rowS p.2,(((rowS p.2).length:Nat):Int)):=by
  intro p hp;rw[hoth _ ((huse _).2 (.inr (.inl ⟨p,List.mem_append_left _ hp,rfl⟩))) (hMd p hp)];exact hwhole _ _ (hrf p (List.mem_append_left _ hp)) (h.full p hp)
 have hman2:(⟨D',s.man.ver,M.map (·.1)++[⟨g.base,w,dh l w⟩],g.base+w,g.base+w,s.man.size,s.man.sum⟩:Sto).man=s.man:=by
  show(⟨s.ver,(M.map (·.1)++[(⟨g.base,w,dh l w⟩:Seg)]).map Seg.base,s.size,s.sum⟩:Man)=⟨s.ver,s.segs.map Seg.base,s.size,s.sum⟩;rw[h.inv.segs];simp
 have hgb:=(ho.seg _ (h.mem (g,l) (by simp))).1
 have hlw:(l.take w).length=w:=by rw[zQ];omega
 refine⟨w,hw1,hw2,rfl,⟨⟨rfl,fun p hp=>?_,h.inv.chain,by show g.base+(w:Int)=g.base+((l.take w).length:Nat);rw[hlw],by show 0<=g.base+(w:Int)∧g.base+(w:Int)<=g.base+(w:Int);omega⟩,?_,?_,by rw[hman2];exact h.right,hMf,⟨(rowS (l.take w)).length,hfl,?_,Nat.le_refl _⟩,by show g.base<=g.base+(w:Int);omega,fun _ n hn=>?_⟩,m2,m5,?_,?_,rfl,rfl,rfl,⟨?_,?_,fun a ha=>?_,?_,ho.ver,ho.sum⟩,fun m hm=>?_,by rw[hrl];exact hw4.symm,hman2,by rw[hrd],by rw[hrd];exact hdec,hsnap,hsegs,fun n=>(huse n).trans ⟨?_,?_⟩⟩
 ·rcases zX.1 hp with hp|hp
  ·have hp2:=h.inv.file p (List.mem_append_left _ hp);exact⟨(jx m7 _ _).2 ⟨_,hMf p hp⟩,hp2.why,hp2.num,hp2.n,hp2.size⟩
  ·rw[zV.1 hp];exact⟨(jx m7 _ _).2 ⟨_,hfl⟩,fun r hr=>hfile.why r (zZ hr),xf w hfile.num,by show(w:Int)=((l.take w).length:Nat);rw[hlw],rfl⟩
 ·rcases h.snp with h1|⟨h1,h2,h3⟩
  ·exact .inl h1
  ·refine .inr ⟨h1,?_,h3⟩;show fm D'.files _=_;rw[hoth _ ((huse _).2 (.inr (.inr ⟨h1,rfl⟩))) (cZ _ _)];exact hwhole _ _ (.inr (.inr ⟨h1,rfl⟩)) h2
 ·rw[hman2];show fm D'.files _=_;rw[hoth _ ((huse _).2 (.inl rfl)) (Ne.symm (kz _ (by rw[bV];decide)))]
  exact hman
 ·show(rowS ((l.take w).take _)).length<=_;have:(l.take w).take (g.base+(w:Int)-g.base).toNat=l.take w:=zL (by omega)
  show(rowS ((l.take w).take (g.base+(w:Int)-g.base).toNat)).length<=_;rw[this];exact Nat.le_refl _
 ·have hn2:fm D'.files n≠none:=hn;have hnu:n∈dM s.man:=by
   apply Classical.byContradiction;intro hc;have:n≠fileN g.base:=fun e=>hc (e ▸ hgu)
   rw[m3,bv _ _ this,hsw.2.2.1,if_neg hc] at hn2;exact hn2 rfl
  rcases(huse n).1 hnu with e|⟨p,hp,e⟩|e
  ·exact .inl e
  ·refine .inr (.inl ?_);rcases zX.1 hp with hp|hp
   ·exact⟨p.1,List.mem_append_left _ (List.mem_map_of_mem hp),e⟩
   ·rw[zV.1 hp] at e;exact⟨⟨g.base,w,dh l w⟩,by show _∈_++[_];simp,e⟩
  ·exact .inr (.inr e)
 ·exact m4.trans (hsw.2.2.2.1.trans hcp)
 ·exact m6.trans (hsw.2.2.2.2.2.1.trans hlf)
 ·have:=xS (vE hks (dM s.man)) ⟨g.base,w,dh l w⟩;rw[hD] at this;exact this
 ·show 1<=(M.map (fun p:SR=>p.1)++[(⟨g.base,w,dh l w⟩:Seg)]).length∧(M.map (fun p:SR=>p.1)++[(⟨g.base,w,dh l w⟩:Seg)]).length<=64
  have:=ho.len;rw[h.inv.segs] at this;simpa using this
 ·have ha2:a∈M.map (·.1)++[(⟨g.base,w,dh l w⟩:Seg)]:=ha;rcases zX.1 ha2 with ha2|ha2
  ·exact ho.seg a (by rw[h.inv.segs];exact List.mem_append_left _ ha2)
  ·rw[zV.1 ha2];have h3:(0<=g.n∧g.n<=u)∧(0<=g.size∧g.size<=u):=(ho.seg _ (h.mem (g,l) (by simp))).2
   have h4:g.n=((l.length:Nat):Int):=hfile.n;have h5:g.size=(((rowS l).length:Nat):Int):=hfile.size;refine⟨hgb,⟨?_,?_⟩,?_,?_⟩ <;> simp only[] <;> omega
 ·show 0<=g.base+(w:Int)∧g.base+(w:Int)<=_;have:=ho.next;have hgb2:0<=g.base:=hgb.1;omega
 ·rw[hrd,hdec] at hm;cases hm;exact hmo
 ·rintro(h1|⟨p,hp,h1⟩|h1)
  ·exact .inl h1
  ·exact .inr (.inl ⟨p.1,h.mem p hp,h1⟩)
  ·exact .inr (.inr h1)
 ·rintro(h1|⟨a,ha,h1⟩|h1)
  ·exact .inl h1
  ·rw[h.inv.segs] at ha;rcases zX.1 ha with ha|ha
   ·obtain⟨p,hp,rfl⟩:=List.mem_map.1 ha;exact .inr (.inl ⟨p,List.mem_append_left _ hp,h1⟩)
   ·rw[zV.1 ha] at h1;exact .inr (.inl ⟨(g,l),by simp,h1⟩)
  ·exact .inr (.inr h1)
theorem W.crash (ho:okS k u s) (h:W f S l0 s M g l) (hin:dI s.disk.files) (keep:List Int) :
  ∃ w,(s.sure-g.base).toNat<=w∧w<=l.length∧(cN (bO s.disk keep)).2=0∧W f S l0 (cN (bO s.disk keep)).1 M ⟨g.base,w,dh l w⟩ (l.take w) ∧
   (cN (bO s.disk keep)).1.disk.down=false∧(cN (bO s.disk keep)).1.disk.armed=false∧(cN (bO s.disk keep)).1.disk.cap=s.disk.cap∧(cN (bO s.disk keep)).1.disk.left=0 ∧
   (cN (bO s.disk keep)).1.next=g.base+w∧(cN (bO s.disk keep)).1.sure=g.base+w∧(cN (bO s.disk keep)).1.ver=s.ver∧okS k u (cN (bO s.disk keep)).1∧(∀ m,cJ (az (bO s.disk keep).files [109]).1=some m->m.ok)∧w=(cD (az (bO s.disk keep).files (fileN g.base)).1 g.base).1.length∧(cN (bO s.disk keep)).1.man=s.man∧((az (bO s.disk keep).files [109]).2=0∧cJ (az (bO s.disk keep).files [109]).1=some s.man∧rZ (bO s.disk keep) s.man=true∧gH (bO s.disk keep) s.man.segs=some (M.map (·.1)++[⟨g.base,w,dh l w⟩])∧∀ n,n∈dM s.man↔rel f s n) :=
 h.torn ho (bO s.disk keep) (rH ho.dsk keep) rfl rfl rfl rfl fun n _ x q hx=>by
  rcases JO s.disk.files keep hin n with⟨h1,_⟩|⟨y,q,c,h1,h2,h3,h4⟩
  ·rw[hx] at h1;cases h1
  ·rw[hx] at h1;cases h1;exact⟨c,h2,h3,h4⟩
theorem WR.crash {R:List Rec} (ho:okS k u s) (h:WR f S l0 s R) (hin:dI s.disk.files) (keep:List Int) :
  ∃ j,(s.sure-f).toNat<=j∧j<=R.length∧(cN (bO s.disk keep)).2=0∧WR f S l0 (cN (bO s.disk keep)).1 (R.take j) ∧
   (cN (bO s.disk keep)).1.disk.down=false∧(cN (bO s.disk keep)).1.disk.armed=false∧(cN (bO s.disk keep)).1.disk.cap=s.disk.cap∧(cN (bO s.disk keep)).1.disk.left=0 ∧
   (cN (bO s.disk keep)).1.next=f+j∧(cN (bO s.disk keep)).1.sure=f+j∧(cN (bO s.disk keep)).1.ver=s.ver∧okS k u (cN (bO s.disk keep)).1∧(∀ m,cJ (az (bO s.disk keep).files [109]).1=some m->m.ok):=by
 obtain⟨M,g,l,h,rfl⟩:=h;obtain⟨w,h1,h2,h3,h4,h5,h6,h7,h8,h9,h10,h11,h12,h13,_,_,_⟩:=h.crash ho hin keep;have hcl:=im _ _ _ h.inv.chain;refine⟨(aQ M).length+w,by omega,by rw[cH,dO,zA];simp only[];omega,h3,⟨M,_,_,h4,?_⟩,h5,h6,h7,h8,by rw[h9];omega,by rw[h10];omega,h11,h12,h13⟩
 rw[cH,dO,cH,dO,List.take_append,zL (Nat.le_add_right _ _),Nat.add_sub_cancel_left]
variable {k u:Nat} {f:Int} {S:Txt} {l0:List Pr} {s:Sto} {M:List SR} {g:Seg} {l:List Rec}
theorem Bh:∀ (l m:List Txt),l.Nodup->(∀ x∈l,x∈m)->l.length<=m.length
 | [],m,_,_=>Nat.zero_le _
 | x::l,m,h,hs=>by
  obtain⟨h1,h2⟩:=List.nodup_cons.1 h;have hx:=hs x (by simp)
  have e:=List.length_erase_of_mem hx;have ih:=Bh l (m.erase x) h2 fun y hy=>by
   have hne:y≠x:=fun e=>h1 (e ▸ hy)
   exact(List.mem_erase_of_ne hne).2 (hs y (by simp[hy]))
  have:=List.length_pos_of_mem hx;rw[List.length_cons];omega
theorem Fb (n:Txt) (b:Nat):∀ l:List Fil,(cR l).Nodup->(∀ f∈l,f.data.length<=65536)->(∀ f∈l,f.name≠n->f.data.length<=b)->usedF l<=l.length*b+65536
 | [],_,_,_=>by simp[usedF]
 | x::l,h,h1,h2=>by
  have e:usedF (x::l)=x.data.length+usedF l:=by simp[usedF]
  have hn:=List.nodup_cons.1 h;rw[e,List.length_cons,Nat.add_mul];by_cases c:x.name=n
  ·have:=Es l b fun y hy=>h2 y (by simp[hy]) fun e=>hn.1 (by
    rw[c,<- e];exact List.mem_map_of_mem hy)
   have:=h1 x (by simp)
   omega
  ·have:=Fb n b l hn.2 (fun y hy=>h1 y (by simp[hy])) fun y hy=>h2 y (by simp[hy])
   have:=h2 x (by simp) c
   omega
theorem Bj:∀ (M:List SR) (b e:Int),chainM b M e->M.length<=(aQ M).length
 | [],_,_,_=>Nat.zero_le _
 | q::M,b,e,h=>by
  have:=Bj M _ _ h.2.2;have e1:aQ (q::M)=q.2++aQ M:=rfl;have:=h.2.1;rw[e1,zA,List.length_cons];omega
theorem WR.segs_le {R:List Rec} (h:WR f S l0 s R):1<=s.segs.length∧s.segs.length<=R.length+1:=by
 obtain⟨M,g,l,h,rfl⟩:=h;have:=Bj M _ _ h.inv.chain;rw[h.inv.segs,cH,dO,zA,zA,zM,List.length_singleton];omega
theorem Oc {l:List Fil} (hs:srt l) {x:Fil} (hx:x∈l):fm l x.name=some (x.data,x.sure):=by
 obtain⟨i,hi,rfl⟩:=zJ hx;rw[(rP hs hi).1,db]
theorem WR.few {R:List Rec} (ho:okS k u s) (h:WR f S l0 s R) (hd:s.disk.down=false) (hR:R.length<=40) (hv:s.ver<=300000):okS 70 300000 s:=by
 have hsl:=h.segs_le;obtain⟨M,g,l,h,rfl⟩:=h;have hs:=ho.dsk.srt;have hmt:=iE h.right;have hrec:∀ p∈M++[(g,l)],p.2.length<=40:=fun p hp=>by
  obtain⟨A,B,e⟩:=List.append_of_mem hp;rw[e] at hR;have e2:aQ (A++p::B)=aQ A++(p.2++aQ B):=by rw[cH];rfl
  rw[e2,zA,zA] at hR;omega
 have hrow:∀ p∈M++[(g,l)],(rowS p.2).length<=3280:=fun p hp=>by
  have:=Nw (h.inv.file p hp).why;have:=hrec p hp;omega
 have hat:∀ a∈s.segs,∃ p∈M++[(g,l)],p.1=a:=fun a ha=>by
  rw[h.inv.segs] at ha;rcases zX.1 ha with ha|ha
  ·obtain⟨p,hp,rfl⟩:=List.mem_map.1 ha;exact⟨p,by simp[hp],rfl⟩
  ·rw[zV.1 ha];exact⟨(g,l),by simp,rfl⟩
 have hS:0<f->S.length<=65536:=fun hf=>by
  rcases h.snp with h1|⟨_,_,_,h4,_⟩
  ·omega
  ·have hz:=KE h.right;have e:s.man.size=s.size:=rfl;rw[e] at hz;rcases hz with hz|hz <;> omega
 have hrel:∀ x∈s.disk.files,rel f s x.name:=fun x hx=>h.only hd _ (by rw[Oc hs hx];simp)
 have hdat:∀ x∈s.disk.files,x.data.length<=65536∧(x.name≠aC f->x.data.length<=3280):=fun x hx=>by
  have hfx:=Oc hs hx;rcases hrel x hx with e|⟨a,ha,e⟩|⟨hf,e⟩
  ·rw[e,h.man] at hfx;have h2:aT s.man=x.data:=congrArg Prod.fst (Option.some.inj hfx);have h3:(aT s.man).length<=3280:=by
    have:=mB s.man;unfold bc at this;rw[if_pos h.right] at this;exact Nat.le_trans this (by decide)
   rw[h2] at h3;exact⟨by omega,fun _=>h3⟩
  ·obtain⟨p,hp,rfl⟩:=hat a ha;obtain⟨q,hq⟩:=(jx hs _ _).1 (h.inv.file p hp).has;rw[<- e,hfx] at hq;have h2:x.data=rowS p.2:=congrArg Prod.fst (Option.some.inj hq);have:=hrow p hp;rw[<- h2] at this;exact⟨by omega,fun _=>this⟩
  ·rcases h.snp with h1|⟨_,h2,_⟩
   ·omega
   ·rw[e,h2] at hfx;have h3:S=x.data:=congrArg Prod.fst (Option.some.inj hfx);rw[<- h3];exact⟨hS hf,fun hn=>absurd e hn⟩
 have hlen:s.disk.files.length<=70:=by
  have:=Bh (cR s.disk.files) ([109]::(s.segs.map (fun a=>fileN a.base)++[aC f])) (rG hs) fun n hn=>by
   obtain⟨x,hx,rfl⟩:=List.mem_map.1 hn;rcases hrel x hx with e|⟨a,ha,e⟩|⟨hf,e⟩
   ·rw[e];simp
   ·rw[e];exact List.mem_cons_of_mem _ (List.mem_append_left _ (List.mem_map_of_mem ha))
   ·rw[e];simp
  have e:(cR s.disk.files).length=s.disk.files.length:=by simp[cR]
  rw[e,List.length_cons,zA,zM,List.length_singleton] at this;omega
 refine⟨⟨hlen,hs,ho.dsk.left,ho.dsk.cap,?_⟩,ho.len,fun a ha=>?_,ho.next,⟨ho.ver.1,by omega⟩,ho.sum⟩
 ·have:=Fb (aC f) 3280 s.disk.files (rG hs) (fun x hx=>(hdat x hx).1) fun x hx=>(hdat x hx).2
  omega
 ·obtain⟨p,hp,rfl⟩:=hat a ha;have hf:=h.inv.file p hp;have h1:=hrec p hp;have h2:=hrow p hp;refine⟨(ho.seg _ ha).1,?_,?_⟩
  ·rw[hf.n];omega
  ·rw[hf.size];omega
def hE (l:List Rec):List D:=[.l (l.map Rec.enc)]
theorem J4 (l:List Rec):(hE l).length=1:=Eq.trans rfl rfl
def frst (l:List Rec):Int:=(l.headD ⟨0,0,[]⟩).at_
def LD (f:Rec->Nat):List Rec->Nat
 | []=>0
 | r::l=>f r+LD f l
def kv (l:List Rec):Nat:=LD mN l
def bytH:List (List Rec)->Nat
 | []=>0
 | l::h=>kv l+bytH h
structure okB (l:List Rec):Prop where
 len:1<=l.length∧l.length<=100
 at_:0<=frst l∧frst l<=1099511627776
 ok:∀ r∈l,r.ok
structure okH (h:List (List Rec)):Prop where
 len:h.length<=1000
 all:∀ l∈h,okB l
 srt:h.Pairwise fun a b=>frst a<frst b
theorem tD:∀ l:List Rec,kv l<=82*l.length
 | []=>by simp[kv,LD]
 | r::l=>by
  have:=tD l;have:=Af (r:=r);have e:kv (r::l)=mN r+kv l:=rfl;rw[e,List.length_cons];omega
theorem GG (l:List Rec) (i:Nat) (h:i<l.length):kv (l.drop i)=mN l[i]+kv (l.drop (i+1)):=by rw[zD h];rfl
theorem yW:∀ h:List (List Rec),(∀ l∈h,okB l)->bytH h<=8200*h.length
 | [],_=>by simp[bytH]
 | l::h,hh=>by
  have:=yW h fun x hx=>hh x (by simp[hx])
  have:=tD l;have:=(hh l (by simp)).len
  simp only[bytH,List.length_cons];omega
theorem GS (h:List (List Rec)) (i:Nat) (hi:i<h.length):bytH (h.drop i)=kv h[i]+bytH (h.drop (i+1)):=by rw[zD hi];rfl
theorem to (l:List Rec) (hl:l.length<=1000) (hr:∀ r∈l,r.ok):call 69 [vl (l.map Rec.enc)] []=some (vi (kv l:Nat),[]):=by
 have hb:=tD l;apply ae WB rfl;refine bh ?_ Ve.eq_1 @zM;refine aq (m:=0) (σ:=Nat × Nat) (fun t=>l.length-t.1) (fun t=>t.1<=l.length∧t.2+kv (l.drop t.1)=kv l) (fun t=>[vi t.2,vl (l.map Rec.enc),vi l.length,vi t.1]) (fun _=>[]) (fun _=>(vi (kv l:Nat),[])) ?_ (0,0) ⟨zP _,by simp⟩ _ _ bA
 rintro⟨i,n⟩ ⟨h1,h2⟩ R hR;simp only at h1 h2 ⊢;by_cases c:i<l.length
 ·have hc:(i:Int)<(l.length:Int):=by omega
  have g1:(l.map Rec.enc)[i]?=some l[i].enc:=by rw[zG,zE c];rfl
  rw[GG l i c] at h2;have q:=yL l[i] (hr _ (zN c));have hK:=hR (i+1,n+mN l[i]) (by simp only[];omega) ⟨by simp only[];omega,by simp only[];omega⟩
  clear hR;generalize l[i]=r at *;obtain⟨a,b,d⟩:=r;simp only[Rec.enc,List.map_cons,List.map_nil] at g1 q;have e:((n+mN ⟨a,b,d⟩:Nat):Int)=(n:Int)+(mN ⟨a,b,d⟩:Nat):=by omega
  simp only[e] at hK;generalize mN ⟨a,b,d⟩=z at *;refine bh ?_ Lc.eq_1 (zT hc) g1 q;exact hK _ _ bA
 ·have hc:¬ (i:Int)<(l.length:Int):=by omega
  rw[zC (by omega)] at h2
  have h3:n=kv l:=by simpa[kv,LD] using h2
  rw[h3];refine bh ?_ Lc.eq_1 Ve.eq_1 (zF hc);try simp[trim]
theorem Bn (h:List (List Rec)) (hh:okH h):call 45 [vl (h.map hE)] []=some (vi (bytH h:Nat),[]):=by
 have hb:=yW h hh.all;have hl:=hh.len;apply ae Wm rfl;refine bh ?_ TY.eq_1 @zM;refine aq (m:=0) (σ:=Nat × Nat) (fun t=>h.length-t.1) (fun t=>t.1<=h.length∧t.2+bytH (h.drop t.1)=bytH h) (fun t=>[vi t.2,vl (h.map hE),vi h.length,vi t.1]) (fun _=>[]) (fun _=>(vi (bytH h:Nat),[])) ?_ (0,0) ⟨zP _,by simp⟩ _ _ bA
 rintro⟨i,n⟩ ⟨h1,h2⟩ R hR;simp only at h1 h2 ⊢;by_cases c:i<h.length
 ·have hc:(i:Int)<(h.length:Int):=by omega
  have g1:(h.map hE)[i]?=some [.l (h[i].map Rec.enc)]:=by rw[zG,zE c];rfl
  rw[GS h i c] at h2;have ho:=hh.all _ (zN c);have hlo:=ho.len;have q:=to h[i] (by omega) ho.ok
  have hK:=hR (i+1,n+kv h[i]) (by simp only[];omega) ⟨by simp only[];omega,by simp only[];omega⟩
  clear hR;have e:((n+kv h[i]:Nat):Int)=(n:Int)+(kv h[i]:Nat):=by omega
  simp only[e] at hK;generalize kv h[i]=z at *;generalize h[i].map Rec.enc=Q at *;refine bh ?_ Iy.eq_1 (zT hc) g1 q;exact hK _ _ bA
 ·have hc:¬ (i:Int)<(h.length:Int):=by omega
  rw[zC (by omega)] at h2
  have h3:n=bytH h:=by simpa[bytH] using h2
  rw[h3];refine bh ?_ Iy.eq_1 TY.eq_1 (zF hc);try simp[trim]
def dR (h:List (List Rec)) (off:Int):Nat:=h.countP fun l=>decide (frst l<off)
def yd (h:List (List Rec)) (off:Int):Bool:=match h[dR h off]? with|some l=>decide (frst l=off)|none=>false
theorem Al {h:List (List Rec)} (hs:h.Pairwise fun a b=>frst a<frst b) (off:Int) (i:Nat) (hi:i<h.length):frst h[i]<off↔i<dR h off:=by
 have:=pC (fun l:List Rec=>decide (frst l<off)) h (hs.imp (fun hab hb=>by simp at hb ⊢;omega)) i hi
 simpa[dR] using this
theorem yP (h:List (List Rec)) (off:Int):dR h off<=h.length:=List.countP_le_length
def rm (h:List (List Rec)) (off:Int):V:=.tup [(false,[zI (dR h off:Nat)]),(false,[zB (yd h off)])]
theorem xH {l:List Rec} (h:1<=l.length):∃ r:Rec,(l.map Rec.enc)[0]?=some [.i .i64 (frst l),.i .i64 r.ti,.s r.da]:=by
 cases l with
 | nil=>simp at h
 | cons r l=>exact⟨r,rfl⟩
theorem Oa (l:List Rec) (h:okB l) (off:Int) (ho:0<=off∧off<=1099511627776) (H:Hp):ak call 81 [vl (l.map Rec.enc),vi off] H=some (vi (frst l-off),H) :=
 callIso_pure rfl (by
  obtain⟨r,g1⟩:=xH h.len.1;have ha:=h.at_;have hl:0<(l.map Rec.enc).length:=by have:=h.len.1;simp;omega
  apply ae Wj rfl;refine bd ?_ VN.eq_1 g1 hl;try simp[trim]) rfl
theorem K6 (h:List (List Rec)) (hh:okH h) (off:Int) (ho:0<=off∧off<=1099511627776):call 80 [vl (h.map hE),vi off,.one (.f 81 [])] []=some (rm h off,[]):=by
 apply ae W2 rfl;have hl:=hh.len;obtain⟨Z,hZ⟩:∃ Z:V × Hp,Z=(rm h off,[]):=⟨_,rfl⟩;rw[<- hZ];refine bd ?_ VI.eq_1;refine aq (m:=0) (σ:=Nat × Nat) (fun t=>t.2-t.1) (fun t=>t.1<=dR h off∧dR h off<=t.2∧t.2<=h.length) (fun t=>[vl (h.map hE),vi off,.one (.f 81 []),vi h.length,vi t.1,vi t.2]) (fun t=>[])
  (fun t=>Z) ?_ (0,h.length) ⟨zP _,yP h off,Nat.le_refl _⟩ _ _ bA
 rintro⟨lo,hi⟩ ⟨h1,h2,h3⟩ R hR;simp only at h1 h2 h3 ⊢;by_cases c:lo<hi
 ·have hm:=MP lo hi;have hmid:(lo+hi) / 2<h.length:=by omega
  have hp:=Al hh.srt off _ hmid;have hob:=hh.all _ (zN hmid);obtain⟨mid,hmd⟩:∃ mid,mid=(lo+hi) / 2:=⟨_,rfl⟩;simp only[<- hmd] at hm hmid hp hob;have g1:(h.map hE)[mid]?=some [.l (h[mid].map Rec.enc)]:=by rw[zG,zE hmid];rfl
  have hc:=Oa h[mid] hob off ho;by_cases c2:frst h[mid]<off
  ·have:=hp.1 c2;have hcn:frst h[mid]-off<0:=by omega
   (simp(disch:=first|decide|omega|(intros;exact aP rfl rfl)|simp only[am]) only[xB,↓zy,hm,g1,↓hc,hcn,go_sem,seval,aO])
   exact hR (mid+1,hi) (by simp only[];omega) ⟨by simp only[];omega,h2,h3⟩ _ _ bA
  ·have:¬ mid<dR h off:=fun h=>c2 (hp.2 h)
   have hcn:¬ frst h[mid]-off<0:=by omega
   (simp(disch:=first|decide|omega|(intros;exact aP rfl rfl)|simp only[am]) only[xB,↓zy,hm,g1,↓hc,hcn,go_sem,seval,aO])
   exact hR (lo,mid) (by simp only[];omega) ⟨h1,by simp only[];omega,by simp only[];omega⟩ _ _ bA
 ·have hlo:lo=dR h off:=by omega
  subst hlo;by_cases c0:dR h off<h.length
  ·have g1:(h.map hE)[dR h off]?=some [.l (h[dR h off].map Rec.enc)]:=by rw[zG,zE c0];rfl
   have hhas:yd h off=decide (frst h[dR h off]=off):=by unfold yd;rw[zE c0]
   have hc:=Oa h[dR h off] (hh.all _ (zN c0)) off ho;by_cases c3:frst h[dR h off]=off
   ·have hcz:frst h[dR h off]-off=0:=by omega
    (simp(disch:=first|decide|omega|(intros;exact aP rfl rfl)|simp only[am]) only[xB,c,c0,g1,↓hc,hcz,go_sem,seval,aO])
    rw[hZ];simp[rm,hhas,c3]
   ·have hcz:¬ frst h[dR h off]-off=0:=by omega
    (simp(disch:=first|decide|omega|(intros;exact aP rfl rfl)|simp only[am]) only[xB,c,c0,g1,↓hc,hcz,go_sem,seval,aO])
    rw[hZ];simp[rm,hhas,c3]
  ·have hhas:yd h off=false:=by unfold yd;rw[List.getElem?_eq_none (by omega)]
   refine bd ?_ xB.eq_1 c c0;rw[hZ];simp[rm,hhas]
def GP (h:List (List Rec)) (l:List Rec) (next most bytes:Int):List (List Rec) :=
 if l.length=0∨frst l<=next∨most<=(h.length:Int)∨yd h (frst l)=true∨bytes<(bytH h:Int)+(kv l:Nat) then h else h.take (dR h (frst l))++l::h.drop (dR h (frst l))
theorem J0 (h:List (List Rec)) (hh:okH h) (l:List Rec) (hl:l.length=0∨okB l) (next most bytes:Int):call 61 [vl (h.map hE),vl (l.map Rec.enc),vi next,vi most,vi bytes] []=some (vl ((GP h l next most bytes).map hE),[]):=by
 unfold GP;have hlen:=hh.len;apply ae WT rfl;by_cases c1:l.length=0
 ·rw[if_pos (.inl c1)];refine bh ?_ Pg.eq_1 c1 @zM;try simp[trim]
 ·have hb:=hl.resolve_left c1;obtain⟨r,g1⟩:=xH hb.len.1;have c1':¬ ((l.length:Nat):Int)=0:=by omega
  have c1n:0<l.length:=by omega
  by_cases c2:frst l<=next
  ·rw[if_pos (.inr (.inl c2))];refine bh ?_ Pg.eq_1 (eq_false c1') g1 (zT c2) @zM;try simp[trim]
  ·by_cases c3:most<=(h.length:Int)
   ·rw[if_pos (.inr (.inr (.inl c3)))];refine bh ?_ Pg.eq_1 (eq_false c1') g1 (zF c2) (zT c3) @zM;try simp[trim]
   ·have q:=K6 h hh (frst l) hb.at_;have hpl:=yP h (frst l);unfold rm at q;by_cases c4:yd h (frst l)=true
    ·rw[if_pos (.inr (.inr (.inr (.inl c4))))];rw[c4] at q;have q:=fun H:Hp=>callIso_pure (H:=H) rfl q rfl
     refine bh ?_ Pg.eq_1 (eq_false c1') g1 (zF c2) (zF c3) q @zM;try simp[trim]
    ·have c4':yd h (frst l)=false:=by simpa using c4
     rw[c4'] at q;have q:=fun H:Hp=>callIso_pure (H:=H) rfl q rfl
     have q2:=Bn h hh;have q3:=to l (by have:=hb.len;omega) hb.ok
     have hbl:=yW h hh.all;have hwl:=tD l;have hll:=hb.len;by_cases c5:bytes<(bytH h:Int)+(kv l:Nat)
     ·rw[if_pos (.inr (.inr (.inr (.inr c5))))];refine bh ?_ Pg.eq_1 (eq_false c1') g1 (zF c2) (zF c3) q q2 q3 (zT c5) @zM;try simp[trim]
     ·rw[if_neg (by simp[c1,c2,c3,c4',c5])]
      have hcl:=V9 (h.map hE) (aZ J4 _) (by simp;omega) (by simp;omega)
      have hi0:=yA (l:=lib) (an:=tv JR) (P:=Tryz.prog) (f:=82) (k:=1) (bytes:=24) rfl rfl (h.map hE) (hE l) (dR h (frst l)) 0 rfl (by simpa using hpl) (by simp;omega) (by simp;omega)
      have em:(h.map hE).take (dR h (frst l))++hE l::(h.map hE).drop (dR h (frst l))=(h.take (dR h (frst l))++l::h.drop (dR h (frst l))).map hE:=by simp
      rw[em,zM] at hi0;have hln:(h.take (dR h (frst l))++l::h.drop (dR h (frst l))).length=h.length+1:=by simp;omega
      generalize h.take (dR h (frst l))++l::h.drop (dR h (frst l))=G at *;have htk:(G.map hE).take (h.length+1)=G.map hE:=zL (by simp;omega)
      have hi:∀ B:Box,ak call 82 [.one (.sl 1 1 0 h.length),vi (dR h (frst l):Nat),.one (.sl 2 1 0 1)] [B,.arr 1 (h.map hE) 0,.arr 1 [[.l (l.map Rec.enc)]] 0]=some (.one (.sl 3 1 0 (h.length+1)),[B,.dead,.arr 1 [[.l (l.map Rec.enc)]] 0,.arr 1 (G.map hE) 0]):=fun B =>
       aF (ids:=[1,2]) rfl rfl rfl hi0 rfl
      (simp(disch:=first|decide|omega|(intros;exact aP rfl rfl)|simp only[am]) only[fU,Pg,eq_false c1',g1,zF c2,zF c3,q,q2,q3,zF c5,↓hcl,↓hi,zM,htk,hln,go_sem,seval,aO])
def gQ:List (List Rec)->Int->List Rec->List Rec × List (List Rec)
 | [],_,out=>(out,[])
 | l::h,next,out=>if next<frst l then(out,l::h) else if next<frst l+(l.length:Nat) then gQ h (frst l+(l.length:Nat)) (out++l.drop (next-frst l).toNat) else gQ h next out
theorem CZ (h:List (List Rec)) (i:Nat) (hi:i<h.length) (next:Int) (out:List Rec):gQ (h.drop i) next out=if next<frst h[i] then(out,h.drop i) else if next<frst h[i]+(h[i].length:Nat) then gQ (h.drop (i+1)) (frst h[i]+(h[i].length:Nat)) (out++h[i].drop (next-frst h[i]).toNat) else gQ (h.drop (i+1)) next out:=by
 rw[zD hi];rfl
theorem Fs (h:List (List Rec)) (hh:okH h) (next:Int) (hn:0<=next∧next<=1099511627776):call 62 [vl (h.map hE),vi next] []=some (.tup [(false,[.d (.l ((gQ h next []).1.map Rec.enc))]),(false,[.d (.l ((gQ h next []).2.map hE))])],[]):=by
 have hl:=hh.len;obtain⟨Z,hZ⟩:∃ Z,Z=gQ h next []:=⟨_,rfl⟩;rw[<- hZ];apply ae WS rfl;refine bh ?_ Ue.eq_1 @zM;refine aq (m:=0) (σ:=Nat × Int × List Rec) (fun t=>h.length-t.1) (fun t=>t.1<=h.length∧(0<=t.2.1∧t.2.1<=1099511627776+100)∧t.2.2.length<=100*t.1∧Z=gQ (h.drop t.1) t.2.1 t.2.2) (fun t=>[vl (h.map hE),vi t.2.1,V.one (.sl 0 3 0 t.2.2.length),vl (h.map hE),vi h.length,vi t.1]) (fun t=>[.arr 3 (t.2.2.map Rec.enc) 0])
  (fun _=>((.tup [(false,[.d (.l (Z.1.map Rec.enc))]),(false,[.d (.l (Z.2.map hE))])],[]):V × Hp)) ?_ (0,next,[]) ⟨zP _,by simp only[];omega,by simp,by simpa using hZ⟩ _ _ ?_
 rotate_left
 ·exact bA
 rintro⟨i,nx,out⟩ ⟨h1,h2,h3,h4⟩ R hR;simp only at h1 h2 h3 h4 ⊢;have hol:(out.map Rec.enc).length=out.length:=by simp
 have hot:List.take out.length (out.map Rec.enc)=out.map Rec.enc:=zL (by simp)
 by_cases c:i<h.length
 ·have hc:(i:Int)<(h.length:Int):=by omega
  have g1:(h.map hE)[i]?=some [.l (h[i].map Rec.enc)]:=by rw[zG,zE c];rfl
  rw[CZ h i c] at h4;have hob:=hh.all _ (zN c);have hbl:=hob.len;have hba:=hob.at_;obtain⟨r,g2⟩:=xH hob.len.1;have hpos:0<(h[i].map Rec.enc).length:=by simp;omega
  have hokr:aV 1 (h.map hE)=true:=aZ J4 _;have hdr:List.drop i (h.map hE)=(h.drop i).map hE:=by rw[List.map_drop]
  have hdl:((h.drop i).map hE).length<=1000:=by simp;omega
  have hlm:(h[i].map Rec.enc).length=h[i].length:=by simp
  by_cases c1:nx<frst h[i]
  ·rw[if_pos c1] at h4;clear hR;rw[h4];generalize h[i]=l at *;refine bh ?_ Bw.eq_1 (zT hc) g1 hpos g2 (zT c1) hokr hdr hol hot @zM;try simp[trim]
  ·rw[if_neg c1] at h4;by_cases c2:nx<frst h[i]+(h[i].length:Nat)
   ·rw[if_pos c2] at h4;have hK:=hR (i+1,frst h[i]+(h[i].length:Nat),out++h[i].drop (nx-frst h[i]).toNat) (by simp only[];omega) ⟨by simp only[];omega,by simp only[];omega,by simp only[zA,zH];omega,h4⟩
    clear hR;have hdrop:List.drop (nx-frst h[i]).toNat (h[i].map Rec.enc)=(h[i].drop (nx-frst h[i]).toNat).map Rec.enc:=by rw[List.map_drop]
    simp only[List.map_append,zA] at hK;have hdl2:(h[i].drop (nx-frst h[i]).toNat).length<=100:=by simp;omega
    have hok3:aV 3 (h[i].map Rec.enc)=true:=aZ Rec.len _;have hok4:aV 3 ((h[i].drop (nx-frst h[i]).toNat).map Rec.enc)=true:=aZ Rec.len _;have hs0:0<=nx-frst h[i]:=by omega
    have hs1:nx-frst h[i]<=(h[i].length:Nat):=by omega
    generalize h[i].drop (nx-frst h[i]).toNat=y at *;generalize h[i]=l at *;refine bh ?_ Bw.eq_1 (zT hc) g1 hpos g2 (zF c1) (zT c2) hlm hok3 hdrop hol (And.intro hok4 @zM);exact hK _ _ bA
   ·rw[if_neg c2] at h4;have hK:=hR (i+1,nx,out) (by simp only[];omega) ⟨by simp only[];omega,by simp only[];omega,by simp only[];omega,h4⟩
    clear hR;generalize h[i]=l at *;refine bh ?_ Bw.eq_1 (zT hc) g1 hpos g2 (zF c1) (zF c2) hlm @zM;exact hK _ _ bA
 ·have hc:¬ (i:Int)<(h.length:Int):=by omega
  rw[zC (by omega)] at h4
  rw[h4];simp only[gQ];refine bh ?_ Bw.eq_1 Ue.eq_1 (zF hc) hol hot;try simp[trim]
theorem Kl (d:Dsk) (hd:d.ok) (n:Txt):call 110 [.agg d.l,.one (.p 0 0)] [.cells [zS n]]=some (aK (ai d (bB d.files n)),[.cells [zS n]]):=by
 have h:=lc d hd n;generalize ai d (bB d.files n)=q at *;obtain⟨⟨fl,cp,ar,lf,dn⟩,qe⟩:=q;obtain⟨fl0,cp0,ar0,lf0,dn0⟩:=d;simp only[aK,Dsk.l] at h ⊢;apply ae TK rfl;refine bh ?_ Sq.eq_1 h;try simp[zR]
theorem IG (d:Dsk) (hd:d.ok) (n:Txt):call 114 [.agg d.l,.one (.p 0 0)] [.cells [zS n]]=some (aK (ai d (ch d.files n)),[.cells [zS n]]):=by
 have h:=oa d hd n;generalize ai d (ch d.files n)=q at *;obtain⟨⟨fl,cp,ar,lf,dn⟩,qe⟩:=q;obtain⟨fl0,cp0,ar0,lf0,dn0⟩:=d;simp only[aK,Dsk.l] at h ⊢;apply ae UV rfl;refine bh ?_ R3.eq_1 h;try simp[zR]
theorem Je (d:Dsk) (hd:d.ok) (n x:Txt) (hx:x.length<=1000000000000):call 113 [.agg d.l,.one (.p 0 0),.one (.p 1 0)] [.cells [zS n],.cells [zS x]]=some (aK (ai d (bM d.files d.cap n x)),[.cells [zS n],.cells [zS x]]):=by
 have h:=kW d hd n x hx;generalize ai d (bM d.files d.cap n x)=q at *;obtain⟨⟨fl,cp,ar,lf,dn⟩,qe⟩:=q;obtain⟨fl0,cp0,ar0,lf0,dn0⟩:=d;simp only[aK,Dsk.l] at h ⊢;apply ae TG rfl;refine bh ?_ Si.eq_1 h;try simp[zR]
theorem H7 {k u:Nat} (d:Dsk) (hd:okN k u d) (hk:k<=900000) (hu:u<=900000000000) (X:Sto) (hl:X.segs.length<=1000000) (hm:X.man.ok):call 115 [.agg d.l,.one (.p 0 0)] [.cells [.d (.l (X.disk.files.map Fil.enc)),zI X.disk.cap,zB X.disk.armed,zI X.disk.left,zB X.disk.down,zI X.ver,.cl (X.segs.map Seg.enc),zI X.next,zI X.sure,zI X.size,zW X.sum]]=some (aK (bT X.man (d,0)),[.cells [.d (.l (X.disk.files.map Fil.enc)),zI X.disk.cap,zB X.disk.armed,zI X.disk.left,zB X.disk.down,zI X.ver,.cl (X.segs.map Seg.enc),zI X.next,zI X.sure,zI X.size,zW X.sum]]):=by
 have q1:=vB X hl;have q2:=vC d hd hk hu X.man hm;have hml:X.man.l=[zI X.ver,.d (.l ((X.segs.map Seg.base).map eI)),zI X.size,zW X.sum]:=rfl;generalize bT X.man (d,0)=q at *;obtain⟨⟨fl,cp,ar,lf,dn⟩,qe⟩:=q;obtain⟨fl0,cp0,ar0,lf0,dn0⟩:=d;have hX:X.l=[.d (.l (X.disk.files.map Fil.enc)),zI X.disk.cap,zB X.disk.armed,zI X.disk.left,zB X.disk.down,zI X.ver,.d (.l (X.segs.map Seg.enc)),zI X.next,zI X.sure,zI X.size,zW X.sum]:=rfl;rw[hX,hml] at q1;rw[hml] at q2;simp only[aK,Dsk.l] at q2 ⊢;apply ae TX rfl;refine cm ?_ SL.eq_1 q1 q2;try simp[zR]
theorem I1 (n:Txt) (d:Dsk) (e:Int):cV n (d,e)=if e=9 then(if(ai d (bN d.files n)).2=0 then((ai d (bN d.files n)).1,9) else ai d (bN d.files n)) else(d,e):=by
 have e1:dH n (d,0)=ai d (bN d.files n):=bD _ _;unfold cV;simp only[e1];split <;> simp_all
theorem FH {k u:Nat} (d:Dsk) (hd:okN k u d) (hk:k<=800000) (hu:u<=800000000000) (n x:Txt) (hx:x.length<=1000000):call 152 [.agg d.l,.one (.p 0 0),.one (.p 3 0)] [.cells [.f 113 [1,2]],.cells [zS n],.cells [zS x],.cells [zS n]]=some (aK (cV n (fL n x (d,0))),[.cells [.f 113 [1,2]],.cells [zS n],.cells [zS x],.cells [zS n]]):=by
 have h0:=Je d (hd.ok (by omega) (by omega)) n x (by omega)
 have kk:=jM (s:=(d,0)) hd n x;have ea:fL n x (d,0)=ai d (bM d.files d.cap n x):=bD _ _;rw[ea] at kk ⊢;generalize ai d (bM d.files d.cap n x)=q at *;obtain⟨q1,qe⟩:=q;have h1:=gB q1 (kk.ok (by omega) (by omega)) n
 rw[I1];generalize ai q1 (bN q1.files n)=r at *;obtain⟨⟨rfl_,rcp,rar,rlf,rdn⟩,re⟩:=r;obtain⟨fl,cp,ar,lf,dn⟩:=q1;obtain⟨fl0,cp0,ar0,lf0,dn0⟩:=d;simp only[aK,Dsk.l] at h0 h1 ⊢;have h2:∀ a b c e,ak call 113 [.agg [.d (.l (fl0.map Fil.enc)),zI cp0,zB ar0,zI lf0,zB dn0],.one (.p 1 0),.one (.p 2 0)] [a,.cells [zS n],.cells [zS x],b,c,e]=some (.tup [(true,[.d (.l (fl.map Fil.enc)),zI cp,zB ar,zI lf,zB dn]),(false,[zI qe])],[a,.cells [zS n],.cells [zS x],b,c,e]):=fun a b c e =>
  aF (ids:=[1,2]) rfl rfl rfl h0 rfl
 apply ae So rfl;by_cases c:qe=9
 ·subst c;rw[if_pos rfl];by_cases c2:re=0
  ·subst c2;rw[if_pos rfl];refine bh ?_ Ck.eq_1 h2 h1;try simp[zR]
  ·rw[if_neg c2];refine bh ?_ Ck.eq_1 h2 h1 c2;try simp[zR,c2]
 ·rw[if_neg c];refine bh ?_ Ck.eq_1 h2 h1 c;try simp[zR,c]
theorem Ga {k u:Nat} (d:Dsk) (hd:okN k u d) (hk:k<=800000) (hu:u<=800000000000) (n:Txt) (X:Sto) (hl:X.segs.length<=1000000) (hm:X.man.ok):call 152 [.agg d.l,.one (.p 0 0),.one (.p 2 0)] [.cells [.f 115 [1]],.cells [.d (.l (X.disk.files.map Fil.enc)),zI X.disk.cap,zB X.disk.armed,zI X.disk.left,zB X.disk.down,zI X.ver,.cl (X.segs.map Seg.enc),zI X.next,zI X.sure,zI X.size,zW X.sum],.cells [zS n]]=some (aK (cV n (bT X.man (d,0))),[.cells [.f 115 [1]],.cells [.d (.l (X.disk.files.map Fil.enc)),zI X.disk.cap,zB X.disk.armed,zI X.disk.left,zB X.disk.down,zI X.ver,.cl (X.segs.map Seg.enc),zI X.next,zI X.sure,zI X.size,zW X.sum],.cells [zS n]]):=by
 have h0:=H7 d hd (by omega) (by omega) X hl hm
 have kk:=iS (s:=(d,0)) hd X.man;generalize bT X.man (d,0)=q at *;obtain⟨q1,qe⟩:=q;have h1:=gB q1 (kk.ok (by omega) (by omega)) n
 rw[I1];generalize ai q1 (bN q1.files n)=r at *;obtain⟨⟨rfl_,rcp,rar,rlf,rdn⟩,re⟩:=r;obtain⟨fl,cp,ar,lf,dn⟩:=q1;obtain⟨fl0,cp0,ar0,lf0,dn0⟩:=d;simp only[aK,Dsk.l] at h0 h1 ⊢;have h2:∀ a b c e,ak call 115 [.agg [.d (.l (fl0.map Fil.enc)),zI cp0,zB ar0,zI lf0,zB dn0],.one (.p 1 0)] [a,.cells [.d (.l (X.disk.files.map Fil.enc)),zI X.disk.cap,zB X.disk.armed,zI X.disk.left,zB X.disk.down,zI X.ver,.cl (X.segs.map Seg.enc),zI X.next,zI X.sure,zI X.size,zW X.sum],b,c,e]=some (.tup [(true,[.d (.l (fl.map Fil.enc)),zI cp,zB ar,zI lf,zB dn]),(false,[zI qe])],[a,.cells [.d (.l (X.disk.files.map Fil.enc)),zI X.disk.cap,zB X.disk.armed,zI X.disk.left,zB X.disk.down,zI X.ver,.cl (X.segs.map Seg.enc),zI X.next,zI X.sure,zI X.size,zW X.sum],b,c,e]):=fun a b c e =>
  aF (ids:=[1]) rfl rfl rfl h0 rfl
 apply ae So rfl;by_cases c:qe=9
 ·subst c;rw[if_pos rfl];by_cases c2:re=0
  ·subst c2;rw[if_pos rfl];refine bh ?_ Ck.eq_1 h2 h1;try simp[zR]
  ·rw[if_neg c2];refine bh ?_ Ck.eq_1 h2 h1 c2;try simp[zR,c2]
 ·rw[if_neg c];refine bh ?_ Ck.eq_1 h2 h1 c;try simp[zR,c]
theorem CB (d:Dsk) (hd:d.ok) (n:Txt):call 154 [.agg d.l,.one (.ip [.s n])] []=some (aK (ai d (bN d.files n)),[]):=by
 have h:=gB d hd n;generalize ai d (bN d.files n)=q at *;obtain⟨⟨fl,cp,ar,lf,dn⟩,qe⟩:=q;obtain⟨fl0,cp0,ar0,lf0,dn0⟩:=d;simp only[aK,Dsk.l] at h ⊢;apply ae Tv rfl;refine bh ?_ Rb.eq_1 h;try simp[trim]
theorem wZ (n:Txt):call 118 [vs n] []=some (.one (.f 154 [0]),[.cells [zS n]]):=by
 apply ae US rfl;have htr:∀ H:Hp,trim 0 (.one (.f 154 [0])) H=(.one (.f 154 [0]),H):=fun H=>by simp[trim,V.refs,L.refs]
 (simp(disch:=first|decide|omega|(intros;exact aP rfl rfl)|simp only[am]) only[fU,RW,↓htr,go_sem,seval,aO])
def w3 (n:Txt) (m:Man) (d:Dsk):Dsk × Int:=cV n (bT m (d,0))
def w2 (n:Txt) (m:Man) (d:Dsk):Dsk × Int:=if(ai d (ch d.files n)).2≠0 then ai d (ch d.files n) else w3 n m (ai d (ch d.files n)).1
def w1 (n x:Txt) (m:Man) (d:Dsk):Dsk × Int:=if(cV n (fL n x (d,0))).2≠0 then cV n (fL n x (d,0)) else w2 n m (cV n (fL n x (d,0))).1
def w0 (n x:Txt) (m:Man) (d:Dsk):Dsk × Int:=if(ai d (bB d.files n)).2≠0 then ai d (bB d.files n) else w1 n x m (ai d (bB d.files n)).1
def wT (n x:Txt) (m:Man):Nat->Dsk->Dsk × Int
 | 0,d=>w0 n x m d
 | 1,d=>w1 n x m d
 | 2,d=>w2 n m d
 | 3,d=>w3 n m d
 | _,d=>(d,0)
theorem PE (d:Dsk) (n x:Txt) (m:Man):mU d n x m=w0 n x m d:=by
 have e1:bR n (d,0)=ai d (bB d.files n):=bD _ _;unfold mU w0;simp only[e1];generalize ai d (bB d.files n)=a;obtain⟨a1,a2⟩:=a;simp only[];by_cases c1:a2=0
 ·subst c1;simp only[if_true,ne_eq,not_true,if_false];unfold w1;generalize cV n (fL n x (a1,0))=b;obtain⟨b1,b2⟩:=b;simp only;by_cases c2:b2=0
  ·subst c2;have e2:fi n (b1,0)=ai b1 (ch b1.files n):=bD _ _;unfold w2 w3;rw[e2];generalize ai b1 (ch b1.files n)=c;obtain⟨c1',c2'⟩:=c;simp only[ne_eq,not_true,if_false];by_cases c3:c2'=0
   ·subst c3;simp
   ·simp[c3]
  ·have e2:fi n (b1,b2)=(b1,b2):=iI c2 _;simp[e2,c2]
 ·have e2:fi n (a1,a2)=(a1,a2):=iI c1 _;simp[e2,c1]
theorem Cb {k u:Nat} (d:Dsk) (hd:okN k u d) (hk:k<=700000) (hu:u<=700000000000) (n x:Txt) (hx:x.length<=100000) (X:Sto) (hl:X.segs.length<=1000000) (hm:X.man.ok) :
  call 109 [.agg d.l,.one (.sp 0 4)] [.cells [.f 110 [1],.f 152 [2,4],.f 114 [1],.f 152 [5,7]],.cells [zS n],.cells [.f 113 [1,3]],.cells [zS x],.cells [zS n],.cells [.f 115 [6]],.cells [.d (.l (X.disk.files.map Fil.enc)),zI X.disk.cap,zB X.disk.armed,zI X.disk.left,zB X.disk.down,zI X.ver,.cl (X.segs.map Seg.enc),zI X.next,zI X.sure,zI X.size,zW X.sum],.cells [zS n]]=some (aK (w0 n x X.man d),[.cells [.f 110 [1],.f 152 [2,4],.f 114 [1],.f 152 [5,7]],.cells [zS n],.cells [.f 113 [1,3]],.cells [zS x],.cells [zS n],.cells [.f 115 [6]],.cells [.d (.l (X.disk.files.map Fil.enc)),zI X.disk.cap,zB X.disk.armed,zI X.disk.left,zB X.disk.down,zI X.ver,.cl (X.segs.map Seg.enc),zI X.next,zI X.sure,zI X.size,zW X.sum],.cells [zS n]]):=by
 obtain⟨Z,hZ⟩:∃ Z,Z=wT n x X.man 0 d:=⟨_,rfl⟩;have hZ0:w0 n x X.man d=Z:=hZ.symm;rw[hZ0];clear hZ0;obtain⟨⟨zfl,zcp,zar,zlf,zdn⟩,ze⟩:=Z;simp only[aK,Dsk.l];apply ae QP rfl;obtain⟨dfl,dcp,dar,dlf,ddn⟩:=d;refine bh ?_ I3.eq_1;refine aq (m:=8) (σ:=Nat × Dsk) (fun t=>4-t.1) (fun t=>t.1<=4∧okN (k+2*t.1) (u+100800*t.1) t.2∧wT n x X.man t.1 t.2=(⟨zfl,zcp,zar,zlf,zdn⟩,ze)) (fun t=>[V.one (.p 8 0),V.one (.p 9 0),V.one (.sp 0 4),vi 4,vi t.1])
  (fun t=>[.cells [.f 110 [1],.f 152 [2,4],.f 114 [1],.f 152 [5,7]],.cells [zS n],.cells [.f 113 [1,3]],.cells [zS x],.cells [zS n],.cells [.f 115 [6]],.cells [.d (.l (X.disk.files.map Fil.enc)),zI X.disk.cap,zB X.disk.armed,zI X.disk.left,zB X.disk.down,zI X.ver,.cl (X.segs.map Seg.enc),zI X.next,zI X.sure,zI X.size,zW X.sum],.cells [zS n],.cells [.d (.l (t.2.files.map Fil.enc)),zI t.2.cap,zB t.2.armed,zI t.2.left,zB t.2.down],.cells [.ns,zI 0,zB false,zI 0,zB false]])
  (fun _=>(V.tup [(true,[.d (.l (zfl.map Fil.enc)),zI zcp,zB zar,zI zlf,zB zdn]),(false,[zI ze])],([.cells [.f 110 [1],.f 152 [2,4],.f 114 [1],.f 152 [5,7]],.cells [zS n],.cells [.f 113 [1,3]],.cells [zS x],.cells [zS n],.cells [.f 115 [6]],.cells [.d (.l (X.disk.files.map Fil.enc)),zI X.disk.cap,zB X.disk.armed,zI X.disk.left,zB X.disk.down,zI X.ver,.cl (X.segs.map Seg.enc),zI X.next,zI X.sure,zI X.size,zW X.sum],.cells [zS n]]:Hp))) ?_ (0,⟨dfl,dcp,dar,dlf,ddn⟩) ⟨zP _,hd,hZ.symm⟩ _ _ ?_
 rotate_left
 ·exact bA
 rintro⟨i,⟨fl,cp,ar,lf,dn⟩⟩ ⟨h1,h2,h3⟩ R hR;simp only at h1 h2 h3 ⊢;have hok:=h2.ok (by omega) (by omega)
 rcases(by omega:i=0∨i=1∨i=2∨i=3∨i=4) with rfl|rfl|rfl|rfl|rfl
 ·have q1:=Kl ⟨fl,cp,ar,lf,dn⟩ hok n;have kk:=fG (s:=(⟨fl,cp,ar,lf,dn⟩,0)) h2 n;rw[show bR n (⟨fl,cp,ar,lf,dn⟩,0)=ai ⟨fl,cp,ar,lf,dn⟩ (bB fl n) from bD _ _] at kk
  simp only[wT,w0] at h3;simp only at q1;generalize ai ⟨fl,cp,ar,lf,dn⟩ (bB fl n)=q at *;have kq:=kk.up (k':=k+2*(0+1)) (u':=u+100800*(0+1)) (by omega) (by omega)
  obtain⟨⟨qfl,qcp,qar,qlf,qdn⟩,qe⟩:=q;simp only[aK,Dsk.l] at q1 h3;have g1:∀ b0 b2 b3 b4 b5 b6 b7 b8 b9:Box,ak call 110 [.agg [.d (.l (fl.map Fil.enc)),zI cp,zB ar,zI lf,zB dn],.one (.p 1 0)] [b0,.cells [zS n],b2,b3,b4,b5,b6,b7,b8,b9]=some (V.tup [(true,[.d (.l (qfl.map Fil.enc)),zI qcp,zB qar,zI qlf,zB qdn]),(false,[zI qe])],[b0,.cells [zS n],b2,b3,b4,b5,b6,b7,b8,b9]):=fun b0 b2 b3 b4 b5 b6 b7 b8 b9=>aF (ids:=[1]) rfl rfl rfl q1 rfl
  by_cases c2:qe=0
  ·subst c2;rw[if_neg (by simp)] at h3
   have hR':=hR (0+1,⟨qfl,qcp,qar,qlf,qdn⟩) (by simp only[];omega) ⟨by simp only[];omega,kq,h3⟩
   refine cm ?_ iG.eq_1 g1;exact hR' _ _ bA
  ·rw[if_pos c2] at h3;cases h3;refine cm ?_ iG.eq_1 g1 c2;try simp[zR,c2]
 ·have q1:=FH ⟨fl,cp,ar,lf,dn⟩ h2 (by omega) (by omega) n x (by omega)
  have kk:=mb (jM (s:=(⟨fl,cp,ar,lf,dn⟩,0)) h2 n x) n;simp only[wT,w1] at h3;generalize cV n (fL n x (⟨fl,cp,ar,lf,dn⟩,0))=q at *;have kq:=kk.up (k':=k+2*(1+1)) (u':=u+100800*(1+1)) (by omega) (by omega)
  obtain⟨⟨qfl,qcp,qar,qlf,qdn⟩,qe⟩:=q;simp only[aK,Dsk.l] at q1 h3;have g1:∀ b0 b5 b6 b7 b8 b9:Box,ak call 152 [.agg [.d (.l (fl.map Fil.enc)),zI cp,zB ar,zI lf,zB dn],.one (.p 2 0),.one (.p 4 0)] [b0,.cells [zS n],.cells [.f 113 [1,3]],.cells [zS x],.cells [zS n],b5,b6,b7,b8,b9]=some (V.tup [(true,[.d (.l (qfl.map Fil.enc)),zI qcp,zB qar,zI qlf,zB qdn]),(false,[zI qe])],[b0,.cells [zS n],.cells [.f 113 [1,3]],.cells [zS x],.cells [zS n],b5,b6,b7,b8,b9]):=fun b0 b5 b6 b7 b8 b9=>aF (ids:=[2,1,3,4]) rfl rfl rfl q1 rfl
  by_cases c2:qe=0
  ·subst c2;rw[if_neg (by simp)] at h3
   have hR':=hR (1+1,⟨qfl,qcp,qar,qlf,qdn⟩) (by simp only[];omega) ⟨by simp only[];omega,kq,h3⟩
   refine cm ?_ iG.eq_1 g1;exact hR' _ _ bA
  ·rw[if_pos c2] at h3;cases h3;refine cm ?_ iG.eq_1 g1 c2;try simp[zR,c2]
 ·have q1:=IG ⟨fl,cp,ar,lf,dn⟩ hok n;have kk:=lw (s:=(⟨fl,cp,ar,lf,dn⟩,0)) h2 n;rw[show fi n (⟨fl,cp,ar,lf,dn⟩,0)=ai ⟨fl,cp,ar,lf,dn⟩ (ch fl n) from bD _ _] at kk
  simp only[wT,w2] at h3;simp only at q1;generalize ai ⟨fl,cp,ar,lf,dn⟩ (ch fl n)=q at *;have kq:=kk.up (k':=k+2*(2+1)) (u':=u+100800*(2+1)) (by omega) (by omega)
  obtain⟨⟨qfl,qcp,qar,qlf,qdn⟩,qe⟩:=q;simp only[aK,Dsk.l] at q1 h3;have g1:∀ b0 b2 b3 b4 b5 b6 b7 b8 b9:Box,ak call 114 [.agg [.d (.l (fl.map Fil.enc)),zI cp,zB ar,zI lf,zB dn],.one (.p 1 0)] [b0,.cells [zS n],b2,b3,b4,b5,b6,b7,b8,b9]=some (V.tup [(true,[.d (.l (qfl.map Fil.enc)),zI qcp,zB qar,zI qlf,zB qdn]),(false,[zI qe])],[b0,.cells [zS n],b2,b3,b4,b5,b6,b7,b8,b9]):=fun b0 b2 b3 b4 b5 b6 b7 b8 b9=>aF (ids:=[1]) rfl rfl rfl q1 rfl
  by_cases c2:qe=0
  ·subst c2;rw[if_neg (by simp)] at h3
   have hR':=hR (2+1,⟨qfl,qcp,qar,qlf,qdn⟩) (by simp only[];omega) ⟨by simp only[];omega,kq,h3⟩
   refine cm ?_ iG.eq_1 g1;exact hR' _ _ bA
  ·rw[if_pos c2] at h3;cases h3;refine cm ?_ iG.eq_1 g1 c2;try simp[zR,c2]
 ·have q1:=Ga ⟨fl,cp,ar,lf,dn⟩ h2 (by omega) (by omega) n X hl hm
  have kk:=mb (iS (s:=(⟨fl,cp,ar,lf,dn⟩,0)) h2 X.man) n;simp only[wT,w3] at h3;generalize cV n (bT X.man (⟨fl,cp,ar,lf,dn⟩,0))=q at *;have kq:=kk.up (k':=k+2*(3+1)) (u':=u+100800*(3+1)) (by omega) (by omega)
  obtain⟨⟨qfl,qcp,qar,qlf,qdn⟩,qe⟩:=q;simp only[aK,Dsk.l] at q1 h3;have g1:∀ b0 b1 b2 b3 b4 b8 b9:Box,ak call 152 [.agg [.d (.l (fl.map Fil.enc)),zI cp,zB ar,zI lf,zB dn],.one (.p 5 0),.one (.p 7 0)] [b0,b1,b2,b3,b4,.cells [.f 115 [6]],.cells [.d (.l (X.disk.files.map Fil.enc)),zI X.disk.cap,zB X.disk.armed,zI X.disk.left,zB X.disk.down,zI X.ver,.cl (X.segs.map Seg.enc),zI X.next,zI X.sure,zI X.size,zW X.sum],.cells [zS n],b8,b9]=some (V.tup [(true,[.d (.l (qfl.map Fil.enc)),zI qcp,zB qar,zI qlf,zB qdn]),(false,[zI qe])],[b0,b1,b2,b3,b4,.cells [.f 115 [6]],.cells [.d (.l (X.disk.files.map Fil.enc)),zI X.disk.cap,zB X.disk.armed,zI X.disk.left,zB X.disk.down,zI X.ver,.cl (X.segs.map Seg.enc),zI X.next,zI X.sure,zI X.size,zW X.sum],.cells [zS n],b8,b9]):=fun b0 b1 b2 b3 b4 b8 b9=>aF (ids:=[5,6,7]) rfl rfl rfl q1 rfl
  by_cases c2:qe=0
  ·subst c2;have hR':=hR (3+1,⟨qfl,qcp,qar,qlf,qdn⟩) (by simp only[];omega) ⟨by simp only[];omega,kq,h3⟩
   refine cm ?_ iG.eq_1 g1;exact hR' _ _ bA
  ·cases h3;refine cm ?_ iG.eq_1 g1 c2;try simp[zR,c2]
 ·simp only[wT] at h3;cases h3;refine cm ?_ iG.eq_1 I3.eq_1;try simp[zR]
def B8 (n:Txt):List D:=[.fn 154 [[.s n]]]
theorem Fp {k u:Nat} (d:Dsk) (hd:okN k u d) (hk:k<=900000) (hu:u<=900000000000) (l:List Txt) (hl:l.length<=1000):call 109 [.agg d.l,vl (l.map B8)] []=some (aK (tZ l (d,0)),[]):=by
 obtain⟨Z,hZ⟩:∃ Z,Z=tZ l (d,0):=⟨_,rfl⟩;rw[<- hZ];obtain⟨⟨zfl,zcp,zar,zlf,zdn⟩,ze⟩:=Z;simp only[aK,Dsk.l];apply ae QP rfl;obtain⟨dfl,dcp,dar,dlf,ddn⟩:=d;refine bh ?_ I3.eq_1;refine aq (m:=0) (σ:=Nat × Dsk) (fun t=>l.length-t.1) (fun t=>t.1<=l.length∧okN k u t.2∧tZ (l.drop t.1) (t.2,0)=(⟨zfl,zcp,zar,zlf,zdn⟩,ze)) (fun t=>[V.one (.p 0 0),V.one (.p 1 0),vl (l.map B8),vi l.length,vi t.1])
  (fun t=>[.cells [.d (.l (t.2.files.map Fil.enc)),zI t.2.cap,zB t.2.armed,zI t.2.left,zB t.2.down],.cells [.ns,zI 0,zB false,zI 0,zB false]])
  (fun _=>(V.tup [(true,[.d (.l (zfl.map Fil.enc)),zI zcp,zB zar,zI zlf,zB zdn]),(false,[zI ze])],[])) ?_ (0,⟨dfl,dcp,dar,dlf,ddn⟩) ⟨zP _,hd,hZ.symm⟩ _ _ ?_
 rotate_left
 ·exact bA
 rintro⟨i,⟨fl,cp,ar,lf,dn⟩⟩ ⟨h1,h2,h3⟩ R hR;simp only at h1 h2 h3 ⊢;by_cases c:i<l.length
 ·have hc:(i:Int)<(l.length:Int):=by omega
  rw[zD c,nq] at h3;have g1:(l.map B8)[i]?=some [.fn 154 [[.s l[i]]]]:=by rw[zG,zE c];rfl
  generalize l[i]=n at *;have g2:=CB ⟨fl,cp,ar,lf,dn⟩ (h2.ok (by omega) (by omega)) n
  have kk:=dX (s:=(⟨fl,cp,ar,lf,dn⟩,0)) h2 n;rw[show dH n (⟨fl,cp,ar,lf,dn⟩,0)=ai ⟨fl,cp,ar,lf,dn⟩ (bN fl n) from bD _ _] at kk h3
  simp only at g2 h3;generalize ai ⟨fl,cp,ar,lf,dn⟩ (bN fl n)=q at *;obtain⟨⟨qfl,qcp,qar,qlf,qdn⟩,qe⟩:=q;simp only[aK,Dsk.l] at g2 h3;have g3:∀ H:Hp,ak call 154 [.agg [.d (.l (fl.map Fil.enc)),zI cp,zB ar,zI lf,zB dn],.one (.ip [.s n])] H=some (V.tup [(true,[.d (.l (qfl.map Fil.enc)),zI qcp,zB qar,zI qlf,zB qdn]),(false,[zI qe])],H):=fun H=>callIso_pure rfl g2 rfl
  by_cases c2:qe=0
  ·subst c2;have hR':=hR (i+1,⟨qfl,qcp,qar,qlf,qdn⟩) (by simp only[];omega) ⟨by simp only[];omega,kk,h3⟩
   refine cm ?_ iG.eq_1 (zT hc) g1 g3;exact hR' _ _ bA
  ·rw[tF _ _ c2] at h3;cases h3;refine cm ?_ iG.eq_1 (zT hc) g1 g3 c2;try simp[trim,c2]
 ·have hc:¬ (i:Int)<(l.length:Int):=by omega
  rw[zC (by omega)] at h3
  cases h3;refine cm ?_ iG.eq_1 I3.eq_1 (zF hc);try simp[trim]
theorem A3 (n:Txt) (g:Nat) (c1 c2:Txt):call 112 [vs n,.one (.f g [0,1])] [.cells [zS c1],.cells [zS c2]]=some (.one (.f 152 [3,2]),[.cells [zS c1],.cells [zS c2],.cells [zS n],.cells [.f g [0,1]]]):=by
 apply ae Rr rfl;refine bh ?_ PV.eq_1;try simp[zR]
theorem yD (n:Txt) (g:Nat) (X:Sto):call 112 [vs n,.one (.f g [0])] [.cells [.d (.l (X.disk.files.map Fil.enc)),zI X.disk.cap,zB X.disk.armed,zI X.disk.left,zB X.disk.down,zI X.ver,.cl (X.segs.map Seg.enc),zI X.next,zI X.sure,zI X.size,zW X.sum]]=some (.one (.f 152 [2,1]),[.cells [.d (.l (X.disk.files.map Fil.enc)),zI X.disk.cap,zB X.disk.armed,zI X.disk.left,zB X.disk.down,zI X.ver,.cl (X.segs.map Seg.enc),zI X.next,zI X.sure,zI X.size,zW X.sum],.cells [zS n],.cells [.f g [0]]]):=by
 apply ae Rr rfl;refine bh ?_ PV.eq_1;try simp[zR]
theorem ot {k u:Nat} (s:Sto) (h:okS k u s) (hk:k<=500000) (hu:u<=1000000) (keep count:Int) (hb:∀ g∈s.segs,g.base<=s.floor+1000)
  (hst:∀ g∈s.segs,ne s g.base=bC s g.base):call 86 [.agg s.l,vi keep,vi count] []=some (cf (cY s keep count),[]):=by
 have q0:=DG s.segs ⟨Nat.le_trans h.len.2 (by omega),fun g hg=>by have:=h.seg g hg;omega⟩ keep count
 have q0':=ud s.segs keep count;unfold cY;have hcell:s.l=[.d (.l (s.disk.files.map Fil.enc)),zI s.disk.cap,zB s.disk.armed,zI s.disk.left,zB s.disk.down,zI s.ver,.d (.l (s.segs.map Seg.enc)),zI s.next,zI s.sure,zI s.size,zW s.sum]:=rfl;by_cases c0:eR s.segs keep count=0
 ·rw[if_pos c0];rw[c0] at q0;apply ae VQ rfl;rw[hcell];simp only[cf,hcell];refine bh ?_ QD.eq_1 q0;try simp[trim]
 ·rw[if_neg c0];have hn:=q0' c0;generalize eR s.segs keep count=n at *;clear q0';have hba:=jz hn;have hbo:=yg h hn;have hbm:=hb _ (zN hn);have hsm:=hst _ (zN hn);rw[<- hba.2] at hbm hsm;have q1:=G8 s h (by omega) (by omega) (aL s.segs n) hbo
  rw[hsm] at q1;have hso:=BB s (aL s.segs n);have hxl:=so hso.1 (by omega)
  have q2:=DE (bC s (aL s.segs n)) (by omega) (by omega) (fun p hp=>(hso.1 p hp).1)
  have q3:=rS (aX (bC s (aL s.segs n))) (by omega)
  have q4:=nG hbo;have hsum:=qG (aX (bC s (aL s.segs n)));have hxm:(eJ s n).segs.length<=1000000:=by show(s.segs.drop n).length<=_;have:=h.len;simp;omega
  have hmo:(eJ s n).man.ok:=⟨by show((s.segs.drop n).map _).length<=_;rw[zM];exact hxm,hsum⟩
  have q5:=Cb s.disk h.dsk (by omega) (by omega) (aC (aL s.segs n)) (aX (bC s (aL s.segs n))) (by omega) (eJ s n) hxm hmo
  have eX:eJ s n={ s with ver:=s.ver+1,segs:=s.segs.drop n,size:=((aX (bC s (aL s.segs n))).length:Nat),sum:=cE (aX (bC s (aL s.segs n))) }:=rfl
  have kl:=IE h.dsk (aC (aL s.segs n)) (aX (bC s (aL s.segs n))) (eJ s n).man;unfold sI;simp only[PE] at kl ⊢;generalize w0 (aC (aL s.segs n)) (aX (bC s (aL s.segs n))) (eJ s n).man s.disk=w at *;simp only[CN];rw[eX] at q5 ⊢;have g0:(s.segs.map Seg.enc)[n]?=some s.segs[n].enc:=by rw[zG,zE hn];rfl
  generalize bC s (aL s.segs n)=st at *;generalize aX st=X at *;rw[hba.2] at *;generalize s.segs[n]=gn at *;obtain⟨gb,gnn,gz⟩:=gn;simp only[Seg.enc] at *;generalize aC gb=N at *;apply ae VQ rfl;have hver:=h.ver;have hok:aV 3 (s.segs.map Seg.enc)=true:=aZ Seg.len s.segs;have hslen:s.segs.length<=64:=h.len.2;have hnl:n<=s.segs.length:=Nat.le_of_lt hn;have hdr:List.drop n (s.segs.map Seg.enc)=(s.segs.drop n).map Seg.enc:=by rw[List.map_drop]
  have hdr0:((s.segs.drop n).map Seg.enc)[0]?=some [.i .i64 gb,.i .i64 gnn,.i .i64 gz]:=by rw[zG,List.getElem?_drop,Nat.add_zero];rw[zG] at g0;exact g0
  have hdo:aV 3 ((s.segs.drop n).map Seg.enc)=true:=aZ Seg.len _;have hdl:((s.segs.drop n).map Seg.enc).length<=64:=by simp;omega
  rw[hcell] at q1;have f1:∀ b0 b1 b2 b4:Box,jy call 112 [vs N,.one (.f 113 [5,3])] [b0,b1,b2,.cells [zS X],b4,.cells [zS N]]=some (.one (.f 152 [7,6]),[b0,b1,b2,.cells [zS X],b4,.cells [zS N],.cells [zS N],.cells [.f 113 [5,3]]]):=fun b0 b1 b2 b4 =>
   yE (ids:=[5,3]) rfl rfl rfl (aF (ids:=[0,1]) rfl rfl rfl (A3 N 113 N X) rfl) rfl
  have f2':=yD N 115 (eJ s n);obtain⟨⟨sfl,scp,sar,slf,sdn⟩,ver,segs,next,sure,size,sum⟩:=s;obtain⟨⟨wfl,wcp,war,wlf,wdn⟩,we⟩:=w;rw[eX] at f2';simp only[aK,Dsk.l,cf,hcell] at f2' q5 q1 kl hver hslen hnl hok hdr hdr0 hdo hdl h hbo ⊢;have f2:∀ b0 b1 b3 b4 b5 b6 b7:Box,jy call 112 [vs N,.one (.f 115 [2])] [b0,b1,.cells [.d (.l (sfl.map Fil.enc)),zI scp,zB sar,zI slf,zB sdn,zI (ver+1),.cl ((segs.drop n).map Seg.enc),zI next,zI sure,zI X.length,zW (cE X)],b3,b4,b5,b6,b7]=some (.one (.f 152 [9,8]),[b0,b1,.cells [.d (.l (sfl.map Fil.enc)),zI scp,zB sar,zI slf,zB sdn,zI (ver+1),.cl ((segs.drop n).map Seg.enc),zI next,zI sure,zI X.length,zW (cE X)],b3,b4,b5,b6,b7,.cells [zS N],.cells [.f 115 [2]]]):=fun b0 b1 b3 b4 b5 b6 b7 =>
   yE (ids:=[2]) rfl rfl rfl (aF (ids:=[0]) rfl rfl rfl f2' rfl) rfl
  have f4:∀ b0 b1 b4:Box,vD 4 [.nf,.nf,.nf,.nf] [(0,1,.one (.f 110 [5])),(1,1,.one (.f 152 [7,6])),(2,1,.one (.f 114 [5])),(3,1,.one (.f 152 [9,8]))] [b0,b1,.cells [.d (.l (sfl.map Fil.enc)),zI scp,zB sar,zI slf,zB sdn,zI (ver+1),.cl ((segs.drop n).map Seg.enc),zI next,zI sure,zI X.length,zW (cE X)],.cells [zS X],b4,.cells [zS N],.cells [zS N],.cells [.f 113 [5,3]],.cells [zS N],.cells [.f 115 [2]]]=some (V.one (.sp 10 4),[b0,b1,.cells [.d (.l (sfl.map Fil.enc)),zI scp,zB sar,zI slf,zB sdn,zI (ver+1),.cl ((segs.drop n).map Seg.enc),zI next,zI sure,zI X.length,zW (cE X)],.cells [zS X],b4,.cells [zS N],.cells [zS N],.cells [.f 113 [5,3]],.cells [zS N],.cells [.f 115 [2]],.cells [.f 110 [5],.f 152 [7,6],.f 114 [5],.f 152 [9,8]]]):=fun b0 b1 b4 =>
   Nh (ids:=[5,7,3,6,9,2,8]) rfl rfl rfl rfl
  have f3:∀ b0 b1 b4:Box,jy call 109 [.agg [.d (.l (sfl.map Fil.enc)),zI scp,zB sar,zI slf,zB sdn],.one (.sp 10 4)] [b0,b1,.cells [.d (.l (sfl.map Fil.enc)),zI scp,zB sar,zI slf,zB sdn,zI (ver+1),.cl ((segs.drop n).map Seg.enc),zI next,zI sure,zI X.length,zW (cE X)],.cells [zS X],b4,.cells [zS N],.cells [zS N],.cells [.f 113 [5,3]],.cells [zS N],.cells [.f 115 [2]],.cells [.f 110 [5],.f 152 [7,6],.f 114 [5],.f 152 [9,8]]]=some (V.tup [(true,[.d (.l (wfl.map Fil.enc)),zI wcp,zB war,zI wlf,zB wdn]),(false,[zI we])],[b0,b1,.cells [.d (.l (sfl.map Fil.enc)),zI scp,zB sar,zI slf,zB sdn,zI (ver+1),.cl ((segs.drop n).map Seg.enc),zI next,zI sure,zI X.length,zW (cE X)],.cells [zS X],b4,.cells [zS N],.cells [zS N],.cells [.f 113 [5,3]],.cells [zS N],.cells [.f 115 [2]],.cells [.f 110 [5],.f 152 [7,6],.f 114 [5],.f 152 [9,8]]]):=fun b0 b1 b4 =>
   yE (ids:=[10,5,7,3,6,9,2,8]) rfl rfl rfl (aF (ids:=[0,1,2,3,4,5,6,7]) rfl rfl rfl q5 rfl) rfl
  clear f2' q5;by_cases c1:we=0
  ·subst c1;rw[if_neg (by simp)]
   have qf:call 119 [.agg [.d (.l (sfl.map Fil.enc)),zI scp,zB sar,zI slf,zB sdn,zI ver,.d (.l (segs.map Seg.enc)),zI next,zI sure,zI size,zW sum]] []=some (vi (Sto.floor ⟨⟨sfl,scp,sar,slf,sdn⟩,ver,segs,next,sure,size,sum⟩),[]):=oY ⟨⟨sfl,scp,sar,slf,sdn⟩,ver,segs,next,sure,size,sum⟩;have hfo:=fD h;have qn:=nG hfo;have hseg:=h.seg;have hnm:ls ⟨⟨sfl,scp,sar,slf,sdn⟩,ver,segs,next,sure,size,sum⟩ n=(segs.take n).map (fun g=>fileN g.base)++(if 0<Sto.floor ⟨⟨sfl,scp,sar,slf,sdn⟩,ver,segs,next,sure,size,sum⟩ then[aC (Sto.floor ⟨⟨sfl,scp,sar,slf,sdn⟩,ver,segs,next,sure,size,sum⟩)] else[]):=rfl
   obtain⟨NS,hNS⟩:∃ NS,NS=ls ⟨⟨sfl,scp,sar,slf,sdn⟩,ver,segs,next,sure,size,sum⟩ n:=⟨_,rfl⟩;rw[<- hNS];rw[hnm] at hNS;clear hnm;generalize Sto.floor ⟨⟨sfl,scp,sar,slf,sdn⟩,ver,segs,next,sure,size,sum⟩=fl' at *;generalize aC fl'=FN at *;have hnl3:NS.length<=1000:=by
    rw[hNS,zA,zM,zQ];split <;> simp <;> omega
   have r2:=Fp ⟨wfl,wcp,war,wlf,wdn⟩ kl (by omega) (by omega) NS hnl3
   generalize tZ NS (⟨wfl,wcp,war,wlf,wdn⟩,0)=z at *;obtain⟨⟨zfl,zcp,zar,zlf,zdn⟩,ze⟩:=z;simp only[Dsk.l,aK] at r2 ⊢;have htkn:List.take n (segs.map Seg.enc)=(segs.take n).map Seg.enc:=by rw[List.map_take]
   have hol:(segs.take n).length<=64:=by rw[zQ];omega
   have hom:∀ g∈segs.take n,0<=g.base∧g.base<=1099511627776:=fun g hg=>(hseg g (zZ hg)).1
   have hlen2:n=(segs.take n).length:=by rw[zQ];omega
   obtain⟨OL,hOL⟩:∃ OL,OL=segs.take n:=⟨_,rfl⟩;rw[<- hOL] at htkn hol hom hNS hlen2;clear hOL;(simp(disch:=first|decide|omega|(intros;exact aP rfl rfl)|simp only[am]) only[fU,QD,q0,c0,hok,hnl,hdr,hdr0,hdo,q1,q2,↓kV,fX,cL,q3,q4,↓EP,↓EK,↓Fk,f1,f2,f4,f3,htkn,zM,go_sem,seval,aO,gL,A.kind,A.xs,co,A.isN])
   have hfin:(Sto.l ⟨⟨zfl,zcp,zar,zlf,zdn⟩,ver+1,segs.drop n,next,sure,(X.length:Nat),cE X⟩)=[.d (.l (zfl.map Fil.enc)),zI zcp,zB zar,zI zlf,zB zdn,zI (ver+1),.d (.l ((segs.drop n).map Seg.enc)),zI next,zI sure,zI X.length,zW (cE X)]:=rfl;rw[hfin];clear hfin f1 f2 f3 f4;refine aq (m:=0) (σ:=Nat) (fun i=>OL.length-i) (fun i=>i<=OL.length) (fun i=>[V.one (.p 0 0),V.one (.p 1 0),V.one (.p 2 0),V.one (.p 3 0),V.one (.sl 4 1 0 (OL.take i).length),vl (OL.map Seg.enc),vi OL.length,vi i])
    (fun i=>[.cells [.d (.l (sfl.map Fil.enc)),zI scp,zB sar,zI slf,zB sdn,zI ver,.d (.l (segs.map Seg.enc)),zI next,zI sure,zI size,zW sum],.cells [.ns,zI 0,zB false,zI 0,zB false,zI 0,.ns,zI 0,zI 0,zI 0,zW 0],.cells [.d (.l (sfl.map Fil.enc)),zI scp,zB sar,zI slf,zB sdn,zI (ver+1),.cl ((segs.drop n).map Seg.enc),zI next,zI sure,zI X.length,zW (cE X)],.cells [.d (.l (wfl.map Fil.enc)),zI wcp,zB war,zI wlf,zB wdn],.arr 1 ((OL.take i).map (fun g=>B8 (fileN g.base))) 0])
    (fun _=>(V.tup [(true,[.d (.l (zfl.map Fil.enc)),zI zcp,zB zar,zI zlf,zB zdn,zI (ver+1),.d (.l ((segs.drop n).map Seg.enc)),zI next,zI sure,zI X.length,zW (cE X)]),(false,[zI ze])],([]:Hp))) ?_ 0 (zP _) _ _ ?_
   rotate_left
   ·exact bA
   clear q1 q2 q3 q4 q0;intro i hi R hR;by_cases c4:i<OL.length
   ·have hc4:(i:Int)<(OL.length:Int):=by omega
    have g1:(OL.map Seg.enc)[i]?=some [.i .i64 OL[i].base,.i .i64 OL[i].n,.i .i64 OL[i].size]:=by
     rw[zG,zE c4];rfl
    have g2:=mC (hom _ (zN c4));have hR':=hR (i+1) (by omega) (by omega)
    rw[zO c4,List.map_append,zA,List.map_cons,List.map_nil,List.length_cons,List.length_nil] at hR';have hrl:((OL.take i).map (fun g=>B8 (fileN g.base))).length=(OL.take i).length:=by simp
    have hrl2:(OL.take i).length<=64:=by rw[zQ];omega
    generalize (OL.take i).map (fun g=>B8 (fileN g.base))=RQ at *
    generalize (OL.take i).length=RL at *;have g3:=wZ (fileN OL[i].base);simp only[B8] at hR';generalize fileN OL[i].base=FB at *;generalize OL[i]=sg at *;obtain⟨sb,sn,sz⟩:=sg;simp only at g1 g2;have g4:∀ b0 b1 b2 b3 b4 b5:Box,ak call 118 [vs FB] [b0,b1,b2,b3,b4,b5]=some (.one (.f 154 [6]),[b0,b1,b2,b3,b4,b5,.cells [zS FB]]):=fun b0 b1 b2 b3 b4 b5=>aF (ids:=[]) rfl rfl rfl g3 rfl
    (simp(disch:=first|decide|omega|(intros;exact aP rfl rfl)|simp only[am]) only[fU,Fo,zT hc4,g1,g2,g4,uU,nv,hrl,go_sem,seval,aO,gL,A.kind,A.xs,co,A.isN])
    exact hR' _ _ bA
   ·have hc4:¬ (i:Int)<(OL.length:Int):=by omega
    have htk:OL.take i=OL:=zL (by omega)
    rw[htk];have hnt:List.take NS.length (NS.map B8)=NS.map B8:=zL (by simp)
    have hrl:(OL.map (fun g=>B8 (fileN g.base))).length=OL.length:=by simp
    by_cases c5:0<fl'
    ·rw[if_pos c5] at hNS;have hrw:OL.map (fun g=>B8 (fileN g.base))++[[.fn 154 [[.s FN]]]]=NS.map B8:=by rw[hNS];simp[B8]
     have hnl2:OL.length+1=NS.length:=by rw[hNS];simp
     have g3:=wZ FN;generalize OL.map (fun g=>B8 (fileN g.base))=RQ at *
     have g4:∀ b0 b1 b2 b3 b4:Box,ak call 118 [vs FN] [b0,b1,b2,b3,b4]=some (.one (.f 154 [5]),[b0,b1,b2,b3,b4,.cells [zS FN]]):=fun b0 b1 b2 b3 b4=>aF (ids:=[]) rfl rfl rfl g3 rfl
     (simp(disch:=first|decide|omega|(intros;exact aP rfl rfl)|simp only[am]) only[fU,Fo,QD,zF hc4,qf,qn,zT c5,g4,uU,nv,hrl,hrw,hnl2,hnt,r2,go_sem,seval,aO,gL,A.kind,A.xs,co,A.isN])
     try simp[trim]
    ·rw[if_neg c5,List.append_nil] at hNS;have hrw:OL.map (fun g=>B8 (fileN g.base))=NS.map B8:=by rw[hNS];simp
     have hnl2:OL.length=NS.length:=by rw[hNS];simp
     rw[hrw] at hrl ⊢;rw[show(.sl 4 1 0 OL.length:L)=.sl 4 1 0 NS.length by rw[hnl2]]
     refine cm ?_ Fo.eq_1 QD.eq_1 (zF hc4) qf (zF c5) hnt r2;try simp[trim]
  ·rw[if_pos c1];(simp(disch:=first|decide|omega|(intros;exact aP rfl rfl)|simp only[am]) only[fU,QD,q0,c0,hok,hnl,hdr,hdr0,hdo,q1,q2,↓kV,fX,cL,q3,q4,↓EP,↓EK,↓Fk,f1,f2,f4,f3,c1,go_sem,seval,aO,gL,A.kind,A.xs,co,A.isN])
   try simp[trim,c1,Sto.l,Dsk.l]
end Go.Proofs.YtgoifbjgmgbihaaGreat
