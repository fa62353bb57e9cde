import Derived.Test.YtghfhomfppbooaaGreatT05
import Derived.Test.YtghfhomfppbooaaGreatT04
import Derived.Test.YtghfhomfppbooaaGreatT03
set_option linter.unusedSimpArgs false
set_option linter.unusedVariables false
namespace Go.Proofs.YtghfhomfppbooaaGreat
open Go.Vi
theorem getR_why (t:List UInt8) (h:(getR t).2=0):whyF (getR t).1=0:=by
 unfold getR at *;split at h
 ·exact absurd h (by decide)
 ·split at h
  ·exact absurd h (by decide)
  ·rename_i n k _ _ m j _;by_cases c:whyF ⟨n,m,t.drop (k+j)⟩=0
   ·simp only[if_pos c];exact c
   ·simp only[if_neg c] at h;exact absurd h c
theorem places_why (s:List UInt8):∀ (f a:Nat) (b:Int),∀ x∈(placesF f s a b).1,whyF x.1=0
 | 0,a,b,x,hx=>by simp[placesF] at hx
 | f+1,a,b,x,hx=>by
  by_cases ha:a<s.length
  ·obtain⟨⟨t,n,e⟩,hn⟩:∃ y,nextF s a=y:=⟨_,rfl⟩;by_cases he:e=0
   ·subst he;by_cases hg:(getR t).2=0
    ·by_cases hb:(getR t).1.at_=b
     ·rw[placesF_step ha hn hg hb] at hx;rcases List.mem_cons.1 hx with rfl|hx
      ·exact getR_why t hg
      ·exact places_why s f n (b+1) x hx
     ·rw[placesF_off ha hn hg hb] at hx;cases hx
    ·rw[placesF_bad ha hn hg] at hx;cases hx
   ·rw[placesF_stop ha hn he] at hx;cases hx
  ·rw[placesF_end (Nat.not_lt.1 ha)] at hx;cases hx
theorem scan_why (s:List UInt8) (b:Int):∀ x∈(scanS s b).1,whyF x.1=0:=by
 intro x hx;unfold scanS at hx;split at hx
 ·exact places_why s _ _ _ x hx
 ·cases hx
theorem why_len {r:Rec} (h:whyF r=0):r.da.length<=64:=by
 unfold whyF at h;split at h
 ·split at h
  ·assumption
  ·exact absurd h (by decide)
 ·exact absurd h (by decide)
def dataT (s:Sto) (off:Int):List UInt8:=if off<0∨s.next<=off then[] else match (recsM s.scans).find? (fun r=>decide (r.at_=off)) with
 | some r=>r.da
 | none=>[]
theorem rget_eq (s:Sto) (off:Int):∃ a b e,rgetT s off=.tup [(true,[.d (.i .i64 a),.d (.i .i64 b),.d (.s (dataT s off))]),(false,[.d (.i .i64 e)])]:=by
 unfold rgetT dataT;split
 ·exact⟨_,_,_,rfl⟩
 ·unfold seekV;cases (recsM s.scans).find? (fun r=>decide (r.at_=off)) with
  | none=>exact⟨_,_,_,rfl⟩
  | some r=>exact⟨r.at_,r.ti,0,rfl⟩
theorem data_len (s:Sto) (off:Int):(dataT s off).length<=64:=by
 unfold dataT;split
 ·simp
 ·cases hf:(recsM s.scans).find? (fun r=>decide (r.at_=off)) with
  | none=>simp
  | some r =>
   have hm:=List.mem_of_find?_eq_some hf;simp only[recsM,Sto.scans,List.flatMap_map,List.mem_flatMap,List.mem_map] at hm;obtain⟨g,_,x,hx,rfl⟩:=hm;exact why_len (scan_why _ _ x hx)
theorem tw_filt (P Q:Pr->Bool) (h:∀ p,P p=true->Q p=false):∀ l:List Pr,(l.takeWhile P).length+(l.filter Q).length<=l.length
 | []=>by simp
 | x::r=>by
  rw[List.takeWhile_cons,List.filter_cons];by_cases hp:P x=true
  ·have hq:=h x hp;have:=tw_filt P Q h r;simp[hp,hq];omega
  ·have h2:(r.filter Q).length<=r.length:=List.length_filter_le _ _;rw[if_neg hp];by_cases hq:Q x=true <;> simp[hq] <;> omega
theorem step_len (l:List Pr) (d:List UInt8):(stepF l d).length<=l.length+1:=by
 cases d with
 | nil=>simp[stepF]
 | cons c r =>
  have h1:=tw_filt (fun p=>decide (p.key<(c.toNat:Int))) (fun p=>decide ((c.toNat:Int)<p.key)) (fun p hp=>by simp at hp ⊢;omega) l
  simp only[stepF,List.length_append];split <;> simp at h1 ⊢ <;> omega
def okP (l:List Pr):Prop:=∀ p∈l,(0<=p.key∧p.key<256)∧p.val.length<=64
theorem step_ok {l:List Pr} (h:okP l) {d:List UInt8} (hd:d.length<=64):okP (stepF l d):=by
 cases d with
 | nil=>exact h
 | cons c r =>
  intro p hp;simp only[stepF,List.mem_append] at hp;rcases hp with(hp|hp)|hp
  ·exact h p ((List.takeWhile_sublist _).subset hp)
  ·split at hp
   ·cases hp
   ·rw[List.mem_singleton] at hp;subst hp;have:=UInt8.toNat_lt c;simp at hd;exact⟨⟨by simp only[];omega,by simp only[];omega⟩,by simp only[];omega⟩
  ·exact h p (List.mem_filter.1 hp).1
theorem pars_ok (s:List UInt8):∀ (n a:Nat) (out:List Pr) (r:List Pr × Nat),parsF s n a out=some r->(∀ p∈out,0<=p.key∧p.key<256)->(∀ p∈r.1,0<=p.key∧p.key<256)∧r.1.length=out.length+n
 | 0,a,out,r,h,ho=>by simp only[parsF] at h;cases h;exact⟨ho,rfl⟩
 | n+1,a,out,r,h,ho=>by
  simp only[parsF] at h;split at h
  ·rename_i p b hp;have hk:0<=p.key∧p.key<256:=by
    unfold pairF at hp;split at hp
    ·split at hp
     ·cases hp
     ·cases hp;have:=UInt8.toNat_lt (s[a]?.getD 0);exact⟨by simp only[];omega,by simp only[];omega⟩
    ·cases hp
   have:=pars_ok s n b (out++[p]) r h (fun q hq=>by
    rcases List.mem_append.1 hq with hq|hq
    ·exact ho q hq
    ·rw[List.mem_singleton.1 hq];exact hk)
   refine⟨this.1,?_⟩;rw[this.2];simp;omega
  ·cases h
theorem right_val {l:List Pr} (h:rightF l=true):∀ p∈l,p.val.length<=64:=by
 intro p hp;obtain⟨i,hi,rfl⟩:=List.getElem_of_mem hp;have:=(List.all_eq_true.1 h) i (by simpa using hi)
 simp only[atOk,List.getElem?_eq_getElem hi,prOk,Bool.and_eq_true,decide_eq_true_eq] at this;omega
theorem parse_ok {s:List UInt8} {l:List Pr} (h:parseF s=some l):okP l∧l.length<=256:=by
 unfold parseF at h;split at h
 ·rename_i n k _;split at h
  ·cases h
  ·rename_i hn;unfold endF at h;split at h
   ·rename_i out a ho;split at h
    ·rename_i hc;cases h;have:=pars_ok s n k [] _ ho (fun p hp=>by cases hp)
     have hv:=right_val hc.2;refine⟨fun p hp=>⟨this.1 p hp,hv p hp⟩,?_⟩
     rw[this.2];simp;omega
    ·cases h
   ·cases h
 ·cases h
def runF (s:Sto):Nat->Int->List Pr->List Pr
 | 0,_,l=>l
 | n+1,i,l=>runF s n (i+1) (stepF l (dataT s i))
def stateT (s:Sto) (off:Int):List Pr:=runF s (off-s.floor).toNat s.floor ((parseF (snapT s)).getD [])
theorem run_ok (s:Sto):∀ (n:Nat) (i:Int) (l:List Pr),okP l->okP (runF s n i l)∧(runF s n i l).length<=l.length+n
 | 0,i,l,h=>⟨h,by simp[runF]⟩
 | n+1,i,l,h=>by
  have h1:=run_ok s n (i+1) (stepF l (dataT s i)) (step_ok h (data_len s i));have h2:=step_len l (dataT s i);exact⟨h1.1,by simp only[runF];omega⟩
theorem state_ok (s:Sto) (off:Int):okP (stateT s off)∧(stateT s off).length<=256+(off-s.floor).toNat:=by
 have h:okP ((parseF (snapT s)).getD [])∧((parseF (snapT s)).getD []).length<=256:=by
  cases hp:parseF (snapT s) with
  | none=>exact⟨fun p hp=>(by simp at hp),by simp⟩
  | some l=>exact parse_ok hp
 have:=run_ok s (off-s.floor).toNat s.floor _ h.1;exact⟨this.1,by unfold stateT;omega⟩
set_option maxRecDepth 8000 in
set_option maxHeartbeats 1000000 in
theorem rstate_sto {k u:Nat} (s:Sto) (h:okS k u s) (hk:k<=800000) (hu:u<=1000000) (off:Int) (ho:off<=s.floor+100000):call 18 [.agg s.l,vi off] []=some (vl ((stateT s off).map Pr.enc),[]):=by
 have hf:=rfloor_spec s;have hfb:=floor_ok h;have hs:=rsnap_sto s h hk;have hsl:(snapT s).length<=1000000:=by
  unfold snapT;split
  ·simp
  ·exact Nat.le_trans (readF_len _ _) (Nat.le_trans h.dsk.used hu)
 have hp:=parse_ref (snapT s) (by omega)
 have hpv:∃ ok:Bool,parseV (parseF (snapT s))=.tup [(false,[.d (.l (((parseF (snapT s)).getD []).map Pr.enc))]),(false,[.d (.b ok)])]:=by
  cases parseF (snapT s) with
  | none=>exact⟨false,rfl⟩
  | some l=>exact⟨true,rfl⟩
 have hl0:((parseF (snapT s)).getD []).length<=256:=by
  cases hp:parseF (snapT s) with
  | none=>simp
  | some l=>exact(parse_ok hp).2
 have hg:=fun i=>rread_any s h hk hu i
 obtain⟨Z,hZ⟩:∃ Z:V,Z=vl ((stateT s off).map Pr.enc):=⟨_,rfl⟩;rw[<- hZ];have hZ':Z=vl ((runF s (off-s.floor).toNat s.floor ((parseF (snapT s)).getD [])).map Pr.enc):=hZ;clear hZ;obtain⟨ok,hpv⟩:=hpv;rw[hpv] at hp;generalize (parseF (snapT s)).getD []=l0 at *;generalize snapT s=sn at *;have hcell:s.l=[.d (.l (s.disk.files.map Fil.enc)),.d (.i .i64 s.disk.cap),.d (.b s.disk.armed),.d (.i .i64 s.disk.left),.d (.b s.disk.down),.d (.i .i64 s.ver),.d (.l (s.segs.map Seg.enc)),.d (.i .i64 s.next),.d (.i .i64 s.sure),.d (.i .i64 s.size),.d (.i .u32 s.sum)]:=rfl;apply enterS s18 rfl;rw[hcell] at hf hs hg ⊢;obtain⟨fl,hfl⟩:∃ fl,fl=s.floor:=⟨_,rfl⟩;rw[<- hfl] at hf hfb hZ' ho;(simp(disch:=first|decide|omega|(intros;exact Eq.trans rfl rfl)|simp only[puri]) only[wkf,a18,hf,hs,hp,go_sem,seval,dis])
 refine loop_boxM (m:=0) (σ:=Int × List Pr) (fun t=>(off-t.1).toNat) (fun t=>fl<=t.1∧t.2.length<=256+(t.1-fl).toNat∧Z=vl ((runF s (off-t.1).toNat t.1 t.2).map Pr.enc)) (fun t=>[vi off,V.one (.p 0 0),vl (t.2.map Pr.enc),vi t.1])
  (fun _=>[.cells [.d (.l (s.disk.files.map Fil.enc)),.d (.i .i64 s.disk.cap),.d (.b s.disk.armed),.d (.i .i64 s.disk.left),.d (.b s.disk.down),.d (.i .i64 s.ver),.d (.l (s.segs.map Seg.enc)),.d (.i .i64 s.next),.d (.i .i64 s.sure),.d (.i .i64 s.size),.d (.i .u32 s.sum)]]) (fun _=>(Z,[])) ?_ (fl,l0) ⟨Int.le_refl _,by simp only[];omega,hZ'⟩ _ _ hdM
 rintro⟨i,l⟩ ⟨h1,h2,h3⟩ R hR;simp only at h1 h2 h3;by_cases hi:i<off
 ·obtain⟨n,hn⟩:∃ n,(off-i).toNat=n+1:=⟨(off-i).toNat-1,by omega⟩
  rw[hn,runF] at h3;obtain⟨a,b,e,he⟩:=rget_eq s i;have hgi:=hg i;rw[he] at hgi;have hst:=step_ref l (by omega) (dataT s i) (Nat.le_trans (data_len s i) (by decide))
  have hsl:=step_len l (dataT s i);have hR':=hR (i+1,stepF l (dataT s i)) (by simp only[];omega) ⟨by simp only[];omega,by simp only[];omega,by simp only[];rw[show(off-(i+1)).toNat=n by omega];exact h3⟩
  generalize stepF l (dataT s i)=l1 at *;generalize dataT s i=dd at *;(simp(disch:=first|decide|omega|(intros;exact Eq.trans rfl rfl)|simp only[puri]) only[wkf,a18_0,decide_eq_true hi,hgi,hst,go_sem,seval,dis])
  exact hR' _ _ hdM
 ·have e:(off-i).toNat=0:=by omega
  rw[e,runF] at h3;rw[h3];(simp(disch:=first|decide|omega|(intros;exact Eq.trans rfl rfl)|simp only[puri]) only[wkf,a18_0,a18,decide_eq_false hi,go_sem,seval,dis])
  try simp[trim]
theorem undo13_spec (d:Dsk) (hd:d.ok) (e:Int) (n:Txt):call 118 [.agg d.l,vi e,vs n] []=some (dskV (unlS n (d,e)),[]):=by
 have h:=rdelete_spec d hd n;have e1:delS n (d,0)=chgF d (delR d.files n):=stp_ye _ _;have eu:unlS n (d,e)=if e≠9 then(d,e) else if(chgF d (delR d.files n)).2=0 then((chgF d (delR d.files n)).1,9) else chgF d (delR d.files n):=by
  unfold unlS;simp only[e1]
 rw[eu];generalize chgF d (delR d.files n)=q at *;obtain⟨⟨fl,cp,ar,lf,dn⟩,qe⟩:=q;obtain⟨fl0,cp0,ar0,lf0,dn0⟩:=d;simp only[dskV,Dsk.l] at h ⊢;apply enterS s118 rfl;by_cases c:e=9
 ·subst c;rw[if_neg (by simp)]
  by_cases c2:qe=0
  ·subst c2;rw[if_pos rfl];(simp(disch:=first|decide|omega|(intros;exact Eq.trans rfl rfl)|simp only[puri]) only[wkf,a118,h,go_sem,seval,dis])
   try simp[trim]
  ·rw[if_neg c2];(simp(disch:=first|decide|omega|(intros;exact Eq.trans rfl rfl)|simp only[puri]) only[wkf,a118,h,c2,go_sem,seval,dis])
   try simp[trim,c2]
 ·rw[if_pos c];(simp(disch:=first|decide|omega|(intros;exact Eq.trans rfl rfl)|simp only[puri]) only[wkf,a118,c,go_sem,seval,dis])
  try simp[trim,c]
def sumT (x:Txt):Int:=(((crcOn 0#32 x).toNat:Nat):Int)
theorem sumT_lt (x:Txt):0<=sumT x∧sumT x<4294967296:=by
 have:=(crcOn 0#32 x).isLt;unfold sumT;omega
def layT (d:Dsk) (n x:Txt) (m:Man):Dsk × Int :=
 let a:=crtS n (d,0)
 let b:=if a.2=0 then unlS n (appS n x a) else a
 let c:=synS n b
 if c.2=0 then unlS n (swapS m c) else c
def delsF (l:List Seg) (s:Dsk × Int):Dsk × Int:=l.foldl (fun s g=>delS (fileN g.base) s) s
def oldT (s:Sto) (k:Nat) (q:Dsk × Int):Dsk × Int :=
 let r:=delsF (s.segs.take k) q
 if r.2=0∧0<s.floor then delS (snapN s.floor) r else r
def baseF (l:List Seg) (k:Nat):Int:=match l[k]? with|some g=>g.base|none=>0
def trimX (s:Sto) (k:Nat):Sto:={ s with ver:=s.ver+1,segs:=s.segs.drop k,size:=((bytesF (stateT s (baseF s.segs k))).length:Nat),sum:=sumT (bytesF (stateT s (baseF s.segs k))) }
def trimK (s:Sto) (k:Nat):Sto × Int :=
 let e:=layT s.disk (snapN (baseF s.segs k)) (bytesF (stateT s (baseF s.segs k))) (trimX s k).man
 if e.2≠0 then({ s with disk:=e.1 },e.2) else({ trimX s k with disk:=(oldT s k e).1 },(oldT s k e).2)
def trimT (s:Sto) (keep count:Int):Sto × Int:=if pickF s.segs keep count=0 then(s,0) else trimK s (pickF s.segs keep count)
theorem dels_ok {k u:Nat}:∀ (l:List Seg) (s:Dsk × Int),okN k u s.1->okN k u (delsF l s).1
 | [],s,h=>h
 | g::l,s,h=>dels_ok l _ (del_okN h _)
theorem old_ok {k u:Nat} {s:Sto} {n:Nat} {q:Dsk × Int} (h:okN k u q.1):okN k u (oldT s n q).1:=by
 unfold oldT;simp only[];split
 ·exact del_okN (dels_ok _ _ h) _
 ·exact dels_ok _ _ h
theorem lay_ok {k u:Nat} {d:Dsk} (h:okN k u d) (n x:Txt) (m:Man):okN (k+2) (u+x.length+800) (layT d n x m).1:=by
 unfold layT;simp only[];have h1:=crt_ok (s:=(d,0)) h n;have h2:okN (k+1) (u+x.length) (if(crtS n (d,0)).2=0 then unlS n (appS n x (crtS n (d,0))) else crtS n (d,0)).1:=by
  split
  ·exact unl_ok (app_ok h1 n x) n
  ·exact h1.up (by omega) (by omega)
 generalize (if(crtS n (d,0)).2=0 then unlS n (appS n x (crtS n (d,0))) else crtS n (d,0))=b at *
 have h3:=syn_ok h2 n;split
 ·exact unl_ok (swap_okN h3 m) n
 ·exact h3.up (by omega) (by omega)
theorem enc_len9 (n:Nat) (h:n<9223372036854775808):(enc128 n).length<=9:=nd_le9 h
theorem bytes_len {l:List Pr} (h:okP l) (hl:l.length<=1000000):(bytesF l).length<=9+74*l.length:=by
 have h1:∀ l:List Pr,okP l->(l.flatMap prB).length<=74*l.length:=by
  intro l;induction l with
  | nil=>intro _;simp
  | cons p r ih =>
   intro h;have hp:=(h p (by simp)).2
   have hr:=ih (fun q hq=>h q (by simp[hq]))
   have he:=enc_len9 p.val.length (by omega)
   rw[List.flatMap_cons,List.length_append];simp only[prB,List.length_cons,List.length_append];omega
 have h2:=h1 l h;have h3:=enc_len9 l.length (by omega)
 unfold bytesF;rw[List.length_append];omega
theorem base_at {l:List Seg} {k:Nat} (h:k<l.length):l[k]?=some l[k]∧baseF l k=l[k].base:=by
 have e:l[k]?=some l[k]:=List.getElem?_eq_getElem h;exact⟨e,by unfold baseF;rw[e]⟩
theorem base_ok {k u:Nat} {s:Sto} (h:okS k u s) {n:Nat} (hn:n<s.segs.length):0<=baseF s.segs n∧baseF s.segs n<=1099511627776:=by
 rw[(base_at hn).2];exact(h.seg _ (List.getElem_mem hn)).1
theorem trimK_ok {k u:Nat} {s:Sto} (h:okS k u s) {n:Nat} (hn:n<s.segs.length) (hb:baseF s.segs n<=s.floor+40):okS (k+2) (u+23000) (trimK s n).1:=by
 have hs:=state_ok s (baseF s.segs n);have hlen:=bytes_len hs.1 (by omega)
 have hl:=lay_ok h.dsk (snapN (baseF s.segs n)) (bytesF (stateT s (baseF s.segs n))) (trimX s n).man;have hl':=hl.up (k':=k+2) (u':=u+23000) (Nat.le_refl _) (by omega)
 unfold trimK;simp only[];split
 ·exact⟨hl',h.len,fun g hg=>by have:=h.seg g hg;omega,h.next,by have:=h.ver;simp only[];omega,h.sum⟩
 ·refine⟨old_ok hl',?_,fun g hg=>?_,h.next,?_,sumT_lt _⟩
  ·show 1<=(s.segs.drop n).length∧(s.segs.drop n).length<=64;have:=h.len;simp;omega
  ·have:=h.seg g (List.mem_of_mem_drop hg);omega
  ·show 0<=s.ver+1∧s.ver+1<=((u+23000:Nat):Int);have:=h.ver;omega
theorem dels_no {s:Dsk × Int} (h:s.2≠0):∀ l:List Seg,delsF l s=s
 | []=>rfl
 | g::l=>by
  have e:delsF (g::l) s=delsF l (delS (fileN g.base) s):=rfl;rw[e,show delS (fileN g.base) s=s from stp_no h _]
  exact dels_no h l
theorem dels_at {l:List Seg} {i n:Nat} (hi:i<n) (h:i<l.length) (s:Dsk × Int):delsF ((l.take n).drop i) s=delsF ((l.take n).drop (i+1)) (delS (fileN l[i].base) s):=by
 rw[List.drop_eq_getElem_cons (by simp;omega),List.getElem_take];rfl
theorem okS.segsB {k u:Nat} {s:Sto} (h:okS k u s) (hu:u<=1000000):segsB s.segs :=
 ⟨by have:=h.len;omega,fun g hg=>by have:=h.seg g hg;omega⟩
set_option maxRecDepth 20000 in
set_option maxHeartbeats 4000000 in
theorem rtrim_spec {k u:Nat} (s:Sto) (h:okS k u s) (hk:k<=700000) (hu:u<=1000000) (keep count:Int) (hb:∀ g∈s.segs,g.base<=s.floor+40):call 73 [.agg s.l,vi keep,vi count] []=some (stoV (trimT s keep count),[]):=by
 have q1:=pick_spec s.segs (h.segsB (by omega)) keep count
 by_cases c0:pickF s.segs keep count=0
 ·have e:trimT s keep count=(s,0):=by unfold trimT;rw[if_pos c0]
  rw[e];rw[c0] at q1;have z0:((0:Nat):Int)=0:=rfl;rw[z0] at q1;obtain⟨⟨fl,cp,ar,lf,dn⟩,ver,segs,next,sure,size,sum⟩:=s;simp only[Sto.l,Dsk.l,stoV,List.cons_append,List.nil_append] at q1 ⊢;apply enterS s73 rfl;(simp(disch:=first|decide|omega|(intros;exact Eq.trans rfl rfl)|simp only[puri]) only[wkf,a73,q1,go_sem,seval,dis])
  try simp[trim]
 ·have hn:=pickF_lt s.segs keep count c0;have e:trimT s keep count=trimK s (pickF s.segs keep count):=by unfold trimT;rw[if_neg c0]
  rw[e];clear e;generalize pickF s.segs keep count=n at *;have hfb:=base_ok h hn;have hbk:baseF s.segs n<=s.floor+40:=by rw[(base_at hn).2];exact hb _ (List.getElem_mem hn)
  have q2:(s.segs.map Seg.enc)[n]?=some [.i .i64 (baseF s.segs n),.i .i64 s.segs[n].n,.i .i64 s.segs[n].size]:=by
   rw[List.getElem?_map,(base_at hn).1,(base_at hn).2];rfl
  have q3:=rsnap_int hfb;have q4:=rstate_sto s h (by omega) (by omega) (baseF s.segs n) (by omega)
  have hst:=state_ok s (baseF s.segs n);have hfo:=floor_ok h;have hxl:=bytes_len hst.1 (by omega)
  have q5:=bytes_ref (stateT s (baseF s.segs n)) (by omega) (by omega) (fun p hp=>(hst.1 p hp).1)
  have q6:=rcreate_spec s.disk (h.dsk.ok (by omega) (by omega)) (snapN (baseF s.segs n))
  have e6:crtS (snapN (baseF s.segs n)) (s.disk,0)=chgF s.disk (crtR s.disk.files (snapN (baseF s.segs n))):=stp_ye _ _;have k6:=crt_ok (s:=(s.disk,0)) h.dsk (snapN (baseF s.segs n));have q10:=refOf_spec (bytesF (stateT s (baseF s.segs n))) (by omega)
  have hsum:=sumT_lt (bytesF (stateT s (baseF s.segs n)));have es:sumT (bytesF (stateT s (baseF s.segs n)))=(((crcOn 0#32 (bytesF (stateT s (baseF s.segs n)))).toNat:Nat):Int):=rfl;rw[<- es] at q10;have hxm:(trimX s n).segs.length<=1000000:=by show(s.segs.drop n).length<=_;have:=h.len;simp;omega
  have q11:=rman_spec (trimX s n) hxm;have hmo:(trimX s n).man.ok:=⟨by show((s.segs.drop n).map _).length<=_;rw[List.length_map];exact hxm,hsum⟩
  have eX:trimX s n={ s with ver:=s.ver+1,segs:=s.segs.drop n,size:=((bytesF (stateT s (baseF s.segs n))).length:Nat),sum:=sumT (bytesF (stateT s (baseF s.segs n))) }:=rfl
  have hX2:(bytesF (stateT s (baseF s.segs n))).length<=1000000:=by omega
  unfold trimK layT;simp only[];rw[e6] at k6 ⊢;have hfin:∀ q,oldT s n q=oldT s n q:=fun _=>rfl
  generalize stateT s (baseF s.segs n)=st at *;generalize bytesF st=X at *;generalize snapN (baseF s.segs n)=N at *;generalize baseF s.segs n=fb at *;generalize chgF s.disk (crtR s.disk.files N)=a at *;apply enterS s73 rfl;have hver:=h.ver;have hok:okRows 3 (s.segs.map Seg.enc)=true:=okRows_map Seg.len s.segs;have hslen:s.segs.length<=64:=h.len.2;have hnl:n<=s.segs.length:=Nat.le_of_lt hn;obtain⟨DQ,hDQ,hokd,hdl,hdl2⟩:∃ DQ,List.drop n (s.segs.map Seg.enc)=DQ∧okRows 3 DQ=true∧DQ.length<=64∧DQ=(s.segs.drop n).map Seg.enc:=by
   have e:List.drop n (s.segs.map Seg.enc)=(s.segs.drop n).map Seg.enc:=by rw[List.map_drop]
   exact⟨_,rfl,by rw[e];exact okRows_map Seg.len _,by rw[e];simp;omega,e⟩
  by_cases c1:a.2=0
  ·rw[if_pos c1];have e7:appS N X a=chgF a.1 (appR a.1.files a.1.cap N X):=if_pos c1;have q7:=rappend_spec a.1 (k6.ok (by omega) (by omega)) N X (by omega)
   have k7:=app_ok k6 N X;rw[e7] at k7 ⊢;generalize chgF a.1 (appR a.1.files a.1.cap N X)=p at *;have q8:=undo13_spec p.1 (k7.ok (by omega) (by omega)) p.2 N
   have k8:=unl_ok k7 N;have ep:unlS N (p.1,p.2)=unlS N p:=rfl;rw[ep] at q8;generalize unlS N p=b at *;by_cases c2:b.2=0
   ·have e9:synS N b=chgF b.1 (synR b.1.files N):=if_pos c2;have q9:=rsync_spec b.1 (k8.ok (by omega) (by omega)) N
    have k9:=syn_ok k8 N;rw[e9] at k9 ⊢;generalize chgF b.1 (synR b.1.files N)=c at *;by_cases c3:c.2=0
    ·rw[if_pos c3];have q12:=rswap_spec c.1 k9 (by omega) (by omega) (trimX s n).man hmo
     have ec:swapS (trimX s n).man (c.1,0)=swapS (trimX s n).man c:=by rw[<- c3]
     have k10:=swap_okN k9 (trimX s n).man;rw[ec] at q12;generalize swapS (trimX s n).man c=w at *;have q13:=undo13_spec w.1 (k10.ok (by omega) (by omega)) w.2 N
     have k11:=unl_ok k10 N;have ew:unlS N (w.1,w.2)=unlS N w:=rfl;rw[ew] at q13;generalize unlS N w=v at *;by_cases c4:v.2=0
     ·rw[if_neg (by simp[c4])]
      have hsg:(trimX s n).segs.map Seg.enc=DQ:=hdl2.symm;have qf:=rfloor_spec s;have qs:=rsnap_int hfo;have hseg:=h.seg;obtain⟨fl',hfl'⟩:∃ fl',fl'=s.floor:=⟨_,rfl⟩;have eold:oldT s n v=(if(delsF (s.segs.take n) v).2=0∧0<fl' then delS (snapN fl') (delsF (s.segs.take n) v) else delsF (s.segs.take n) v):=by rw[hfl'];rfl
      rw[eold];rw[<- hfl'] at qf qs hfo;clear eold hfl' hfin hbk hb;generalize snapN fl'=FN at *;obtain⟨Z,hZ⟩:∃ Z:V,Z=stoV ({ trimX s n with disk:=(if(delsF (s.segs.take n) v).2=0∧0<fl' then delS FN (delsF (s.segs.take n) v) else delsF (s.segs.take n) v).1 },(if(delsF (s.segs.take n) v).2=0∧0<fl' then delS FN (delsF (s.segs.take n) v) else delsF (s.segs.take n) v).2):=⟨_,rfl⟩
      rw[<- hZ];generalize hQ:delsF (s.segs.take n) v=Q at hZ;obtain⟨⟨fl,cp,ar,lf,dn⟩,ver,segs,next,sure,size,sum⟩:=s;obtain⟨⟨fl1,cp1,ar1,lf1,dn1⟩,a2⟩:=a;obtain⟨⟨fl2,cp2,ar2,lf2,dn2⟩,p2⟩:=p;obtain⟨⟨fl3,cp3,ar3,lf3,dn3⟩,b2⟩:=b;obtain⟨⟨fl4,cp4,ar4,lf4,dn4⟩,c2'⟩:=c;obtain⟨⟨fl5,cp5,ar5,lf5,dn5⟩,w2⟩:=w;obtain⟨⟨fl6,cp6,ar6,lf6,dn6⟩,v2⟩:=v;simp only at c1 c2 c3 c4;subst c1 c2 c3 c4;simp only[Sto.l,Dsk.l,stoV,dskV,Sto.man,Man.l,eX,List.cons_append,List.nil_append] at q1 q2 q4 q6 q7 q8 q9 q11 q12 q13 hok hnl hDQ hsg hver hZ hQ k11 hseg hn qf hslen ⊢;rw[hsg] at q11 hZ;(simp(disch:=first|decide|omega|(intros;exact Eq.trans rfl rfl)|simp only[puri]) only[wkf,a73,q1,q2,q3,q4,q5,q6,q7,q8,q9,q10,c0,hok,hnl,hDQ,hokd,↓iso_callzA_e,czKA_a,splitS,allD,czR_some,q11,q12,q13,go_sem,seval,dis,vdr,A.kind,A.xs,optX,A.isN])
      refine loop_boxM (m:=0) (σ:=Nat × (Dsk × Int)) (fun t=>n-t.1) (fun t=>t.1<=n∧okN (k+1+1) (u+X.length+800) t.2.1∧delsF ((segs.take n).drop t.1) t.2=Q) (fun t=>[V.one (.p 0 0),V.one (.p 1 0),vi n,V.one (.p 2 0),vi t.2.2,V.one (.p 3 0),vi t.1])
       (fun t=>[.cells [.d (.l (fl.map Fil.enc)),.d (.i .i64 cp),.d (.b ar),.d (.i .i64 lf),.d (.b dn),.d (.i .i64 ver),.d (.l (segs.map Seg.enc)),.d (.i .i64 next),.d (.i .i64 sure),.d (.i .i64 size),.d (.i .u32 sum)],
        .cells [.ns,.d (.i .i64 0),.d (.b false),.d (.i .i64 0),.d (.b false),.d (.i .i64 0),.ns,.d (.i .i64 0),.d (.i .i64 0),.d (.i .i64 0),.d (.i .u32 0)],
        .cells [.d (.l (t.2.1.files.map Fil.enc)),.d (.i .i64 t.2.1.cap),.d (.b t.2.1.armed),.d (.i .i64 t.2.1.left),.d (.b t.2.1.down)],
        .cells [.d (.l (fl.map Fil.enc)),.d (.i .i64 cp),.d (.b ar),.d (.i .i64 lf),.d (.b dn),.d (.i .i64 (ver+1)),.sl 4 3 0 DQ.length,.d (.i .i64 next),.d (.i .i64 sure),.d (.i .i64 X.length),.d (.i .u32 (sumT X))],
        .arr 3 DQ (max 0 DQ.length)]) (fun _=>(Z,[])) ?_ (0,(⟨fl6,cp6,ar6,lf6,dn6⟩,0)) ⟨Nat.zero_le _,k11,by simpa using hQ⟩ _ _ ?_
      rotate_left
      ·exact hdM
      rintro⟨i,⟨⟨dfl,dcp,dar,dlf,ddn⟩,de⟩⟩ ⟨h1,h2,h3⟩ R hR;simp only at h1 h2 h3 ⊢;clear q1 q3 q4 q5 q6 q7 q8 q9 q10 q11 q12 q13 hQ q2;have htk:List.take DQ.length DQ=DQ:=List.take_length;by_cases he:de=0
      ·subst he;by_cases hi:i<n
       ·have hil:i<segs.length:=by omega
        have g1:(segs.map Seg.enc)[i]?=some [.i .i64 segs[i].base,.i .i64 segs[i].n,.i .i64 segs[i].size]:=by
         rw[List.getElem?_map,List.getElem?_eq_getElem hil];rfl
        have g2:=rseg_spec (hseg _ (List.getElem_mem hil)).1;have g3:=rdelete_spec ⟨dfl,dcp,dar,dlf,ddn⟩ (h2.ok (by omega) (by omega)) (fileN segs[i].base)
        have kk:=del_okN (s:=(⟨dfl,dcp,dar,dlf,ddn⟩,0)) h2 (fileN segs[i].base);have e1:delS (fileN segs[i].base) (⟨dfl,dcp,dar,dlf,ddn⟩,0)=chgF ⟨dfl,dcp,dar,dlf,ddn⟩ (delR dfl (fileN segs[i].base)):=stp_ye _ _;rw[dels_at hi hil] at h3;rw[e1] at h3 kk;simp only at g3;generalize chgF ⟨dfl,dcp,dar,dlf,ddn⟩ (delR dfl (fileN segs[i].base))=q at *;have hR':=hR (i+1,q) (by simp only[];omega) ⟨by simp only[];omega,kk,h3⟩
        generalize fileN segs[i].base=FB at *;obtain⟨⟨qfl,qcp,qar,qlf,qdn⟩,qe⟩:=q;simp only[Dsk.l,dskV] at g3 hR';have hci:(i:Int)<(n:Int):=by omega
        (simp(disch:=first|decide|omega|(intros;exact Eq.trans rfl rfl)|simp only[puri]) only[wkf,a73_0,decide_eq_true hci,g1,g2,g3,go_sem,seval,dis,vdr,A.kind,A.xs,optX,A.isN])
        exact hR' _ _ hdM
       ·have hci:¬ (i:Int)<(n:Int):=by omega
        rw[List.drop_eq_nil_of_le (by simp;omega)] at h3
        have h3':Q=(⟨dfl,dcp,dar,dlf,ddn⟩,0):=h3.symm;subst h3';by_cases hf:0<fl'
        ·rw[if_pos ⟨rfl,hf⟩] at hZ;have g3:=rdelete_spec ⟨dfl,dcp,dar,dlf,ddn⟩ (h2.ok (by omega) (by omega)) FN
         have e1:delS FN (⟨dfl,dcp,dar,dlf,ddn⟩,0)=chgF ⟨dfl,dcp,dar,dlf,ddn⟩ (delR dfl FN):=stp_ye _ _;rw[e1] at hZ;simp only at g3;generalize chgF ⟨dfl,dcp,dar,dlf,ddn⟩ (delR dfl FN)=q at *;obtain⟨⟨qfl,qcp,qar,qlf,qdn⟩,qe⟩:=q;simp only[Dsk.l,dskV] at g3 hZ;rw[hZ];(simp(disch:=first|decide|omega|(intros;exact Eq.trans rfl rfl)|simp only[puri]) only[wkf,a73_0,a73,decide_eq_false hci,qf,qs,decide_eq_true hf,g3,htk,go_sem,seval,dis,vdr,A.kind,A.xs,optX,A.isN])
         try simp[trim]
        ·rw[if_neg (fun h=>hf h.2)] at hZ
         simp only at hZ;rw[hZ];(simp(disch:=first|decide|omega|(intros;exact Eq.trans rfl rfl)|simp only[puri]) only[wkf,a73_0,a73,decide_eq_false hci,qf,decide_eq_false hf,htk,go_sem,seval,dis,vdr,A.kind,A.xs,optX,A.isN])
         try simp[trim]
      ·rw[dels_no he] at h3;subst h3;rw[if_neg (fun h=>he h.1)] at hZ
       simp only at hZ;rw[hZ];have he':(de == 0)=false:=by simpa using he
       by_cases hi:i<n
       ·have hci:(i:Int)<(n:Int):=by omega
        (simp(disch:=first|decide|omega|(intros;exact Eq.trans rfl rfl)|simp only[puri]) only[wkf,a73_0,a73,decide_eq_true hci,he,he',htk,go_sem,seval,dis,vdr,A.kind,A.xs,optX,A.isN])
        try simp[trim]
       ·have hci:¬ (i:Int)<(n:Int):=by omega
        (simp(disch:=first|decide|omega|(intros;exact Eq.trans rfl rfl)|simp only[puri]) only[wkf,a73_0,a73,decide_eq_false hci,he,he',htk,go_sem,seval,dis,vdr,A.kind,A.xs,optX,A.isN])
        try simp[trim]
     ·rw[if_pos c4];have hsg:(trimX s n).segs.map Seg.enc=DQ:=hdl2.symm;obtain⟨⟨fl,cp,ar,lf,dn⟩,ver,segs,next,sure,size,sum⟩:=s;obtain⟨⟨fl1,cp1,ar1,lf1,dn1⟩,a2⟩:=a;obtain⟨⟨fl2,cp2,ar2,lf2,dn2⟩,p2⟩:=p;obtain⟨⟨fl3,cp3,ar3,lf3,dn3⟩,b2⟩:=b;obtain⟨⟨fl4,cp4,ar4,lf4,dn4⟩,c2'⟩:=c;obtain⟨⟨fl5,cp5,ar5,lf5,dn5⟩,w2⟩:=w;obtain⟨⟨fl6,cp6,ar6,lf6,dn6⟩,v2⟩:=v;simp only at c1 c2 c3;subst c1 c2 c3;simp only[Sto.l,Dsk.l,stoV,dskV,Sto.man,Man.l,hsg,eX,List.cons_append,List.nil_append] at *;rw[hsg] at q11;(simp(disch:=first|decide|omega|(intros;exact Eq.trans rfl rfl)|simp only[puri]) only[wkf,a73,q1,q2,q3,q4,q5,q6,q7,q8,q9,q10,c0,hok,hnl,hDQ,hokd,↓iso_callzA_e,czKA_a,splitS,allD,czR_some,q11,q12,q13,c4,go_sem,seval,dis,vdr,A.kind,A.xs,optX,A.isN])
      try simp[trim,c4]
    ·rw[if_neg c3,if_pos c3];obtain⟨⟨fl,cp,ar,lf,dn⟩,ver,segs,next,sure,size,sum⟩:=s;obtain⟨⟨fl1,cp1,ar1,lf1,dn1⟩,a2⟩:=a;obtain⟨⟨fl2,cp2,ar2,lf2,dn2⟩,p2⟩:=p;obtain⟨⟨fl3,cp3,ar3,lf3,dn3⟩,b2⟩:=b;obtain⟨⟨fl4,cp4,ar4,lf4,dn4⟩,c2'⟩:=c;simp only at c1 c2;subst c1 c2;simp only[Sto.l,Dsk.l,stoV,dskV,List.cons_append,List.nil_append] at *;(simp(disch:=first|decide|omega|(intros;exact Eq.trans rfl rfl)|simp only[puri]) only[wkf,a73,q1,q2,q3,q4,q5,q6,q7,q8,q9,q10,c0,c3,hok,hnl,hDQ,hokd,go_sem,seval,dis])
     try simp[trim,c3]
   ·have e9:synS N b=b:=stp_no c2 _;rw[e9,if_neg c2,if_pos c2];obtain⟨⟨fl,cp,ar,lf,dn⟩,ver,segs,next,sure,size,sum⟩:=s;obtain⟨⟨fl1,cp1,ar1,lf1,dn1⟩,a2⟩:=a;obtain⟨⟨fl2,cp2,ar2,lf2,dn2⟩,p2⟩:=p;obtain⟨⟨fl3,cp3,ar3,lf3,dn3⟩,b2⟩:=b;simp only at c1;subst c1;simp only[Sto.l,Dsk.l,stoV,dskV,List.cons_append,List.nil_append] at *;(simp(disch:=first|decide|omega|(intros;exact Eq.trans rfl rfl)|simp only[puri]) only[wkf,a73,q1,q2,q3,q4,q5,q6,q7,q8,q10,c0,c2,hok,hnl,hDQ,hokd,go_sem,seval,dis])
    try simp[trim,c2]
  ·rw[if_neg c1];have e1:synS N a=a:=stp_no c1 _;rw[e1,if_neg c1,if_pos c1];obtain⟨⟨fl,cp,ar,lf,dn⟩,ver,segs,next,sure,size,sum⟩:=s;obtain⟨⟨fl1,cp1,ar1,lf1,dn1⟩,a2⟩:=a;simp only[Sto.l,Dsk.l,stoV,dskV,List.cons_append,List.nil_append] at *;(simp(disch:=first|decide|omega|(intros;exact Eq.trans rfl rfl)|simp only[puri]) only[wkf,a73,q1,q2,q3,q4,q5,q6,q10,c0,c1,hok,hnl,hDQ,hokd,go_sem,seval,dis])
   try simp[trim,c1]
abbrev FM:=Txt->Option (Txt × Int)
def fm (l:List Fil):FM:=fun n=>(l.find? fun f=>decide (f.name=n)).map fun f=>(f.data,f.sure)
def up (F:FM) (n:Txt) (v:Option (Txt × Int)):FM:=fun k=>if k=n then v else F k
theorem up_at (F:FM) (n:Txt) (v:Option (Txt × Int)):up F n v n=v:=if_pos rfl
theorem up_ne (F:FM) {n k:Txt} (v:Option (Txt × Int)) (h:k≠n):up F n v k=F k:=if_neg h
theorem up_up (F:FM) (n:Txt) (v w:Option (Txt × Int)):up (up F n v) n w=up F n w:=by
 funext k;unfold up;split <;> rfl
theorem up_self {F:FM} {n:Txt} {v:Option (Txt × Int)} (h:F n=v):up F n v=F:=by
 funext k;unfold up;split
 ·rename_i e;rw[e,h]
 ·rfl
theorem fm_none {l:List Fil} {n:Txt}:fm l n=none↔∀ f∈l,f.name≠n:=by
 unfold fm;rw[Option.map_eq_none_iff,List.find?_eq_none];simp
theorem fm_mid (A:List Fil) (x:Fil) (B:List Fil) (h:∀ a∈A,a.name≠x.name):fm (A++x::B)=up (fm (A++B)) x.name (some (x.data,x.sure)):=by
 funext k
 unfold fm up;simp only[List.find?_append,List.find?_cons];by_cases c:k=x.name
 ·have hn:A.find? (fun f=>decide (f.name=k))=none:=by
   rw[List.find?_eq_none];intro a ha;simpa[c] using h a ha
  rw[if_pos c,hn];simp[c]
 ·rw[if_neg c];have:decide (x.name=k)=false:=by simpa using fun e=>c e.symm
  rw[this]
theorem srt_mid {l:List Fil} (hs:srt l) {i:Nat} (hi:i<l.length):(∀ a∈l.take i,a.name≠l[i].name)∧(∀ b∈l.drop (i+1),b.name≠l[i].name):=by
 constructor
 ·intro a ha;obtain⟨j,hj,rfl⟩:=List.getElem_of_mem ha;rw[List.length_take] at hj;rw[List.getElem_take];exact bl_ne ((List.pairwise_iff_getElem.1 hs) j i (by omega) hi (by omega))
 ·intro b hb;obtain⟨j,hj,rfl⟩:=List.getElem_of_mem hb;rw[List.length_drop] at hj;rw[List.getElem_drop];exact fun e=>bl_ne ((List.pairwise_iff_getElem.1 hs) i (i+1+j) hi (by omega) (by omega)) e.symm
theorem cut_mid (l:List Fil) {i:Nat} (hi:i<l.length):l=l.take i++l[i]::l.drop (i+1):=by
 conv=>lhs;rw[<- List.take_append_drop i l,List.drop_eq_getElem_cons hi]
theorem fm_cut {l:List Fil} (hs:srt l) {i:Nat} (hi:i<l.length):fm l=up (fm (delF l i)) l[i].name (some (l[i].data,l[i].sure))∧fm (delF l i) l[i].name=none:=by
 have h:=srt_mid hs hi;constructor
 ·conv=>lhs;rw[cut_mid l hi]
  exact fm_mid _ _ _ h.1
 ·rw[fm_none];intro f hf;rcases List.mem_append.1 hf with hf|hf
  ·exact h.1 f hf
  ·exact h.2 f hf
theorem fm_del {l:List Fil} (hs:srt l) {i:Nat} (hi:i<l.length):fm (delF l i)=up (fm l) l[i].name none:=by
 have h:=fm_cut hs hi;rw[h.1,up_up,up_self h.2]
theorem fm_set {l:List Fil} (hs:srt l) {i:Nat} (hi:i<l.length) (g:Fil) (hg:g.name=l[i].name):fm (l.set i g)=up (fm l) l[i].name (some (g.data,g.sure)):=by
 have h:=srt_mid hs hi;have e:l.set i g=l.take i++g::l.drop (i+1):=by rw[List.set_eq_take_append_cons_drop,if_pos hi]
 rw[e,fm_mid _ _ _ (fun a ha=>by rw[hg];exact h.1 a ha),hg]
 have h2:=fm_cut hs hi;rw[h2.1,up_up];try rfl
theorem fm_has {l:List Fil} (hs:srt l) (n:Txt):hasF l n=(fm l n).isSome:=by
 cases h:hasF l n with
 | true =>
  obtain⟨hp,he⟩:=has_at h;rw[(fm_cut hs hp).1,he,up_at];rfl
 | false =>
  rw[fm_none.2 (has_false hs h)];rfl
theorem fm_pos {l:List Fil} (hs:srt l) {n:Txt} {v:Txt × Int} (h:fm l n=some v):∃ hp:posF l n<l.length,l[posF l n].name=n∧(l[posF l n].data,l[posF l n].sure)=v:=by
 have h1:hasF l n=true:=by rw[fm_has hs,h];rfl
 obtain⟨hp,he⟩:=has_at h1;refine⟨hp,he,?_⟩;have h2:=(fm_cut hs hp).1;rw[h2,he,up_at] at h;exact Option.some.inj h
theorem fm_read {l:List Fil} (hs:srt l) (n:Txt):readF l n=match fm l n with|some v=>(v.1,0)|none=>([],7):=by
 cases h:fm l n with
 | some v =>
  obtain⟨hp,he,hv⟩:=fm_pos hs h;subst hv;unfold readF;rw[List.getElem?_eq_getElem hp];simp only[if_pos he]
 | none =>
  have h1:hasF l n=false:=by rw[fm_has hs,h];rfl
  unfold readF;unfold hasF at h1;split
  ·rename_i f hf;rw[hf] at h1;rw[if_neg (by simpa using h1)]
  ·rfl
theorem fm_hasD {l:List Fil} (hs:srt l) (n d:Txt):hasD l n d↔∃ q,fm l n=some (d,q):=by
 constructor
 ·rintro⟨f,hf,rfl,rfl⟩;obtain⟨i,hi,rfl⟩:=List.getElem_of_mem hf;exact⟨l[i].sure,by rw[(fm_cut hs hi).1,up_at]⟩
 ·rintro⟨q,h⟩;obtain⟨hp,he,hv⟩:=fm_pos hs h;exact⟨l[posF l n],List.getElem_mem hp,he,congrArg Prod.fst hv⟩
theorem fm_ins {l:List Fil} (hs:srt l) {n:Txt} (d:Txt) (q:Int) (h:fm l n=none):fm (insF l (posF l n) ⟨n,d,q⟩)=up (fm l) n (some (d,q)):=by
 have h2:=fm_none.1 h;unfold insF;rw[fm_mid _ _ _ (fun a ha=>h2 a (List.mem_of_mem_take ha)),List.take_append_drop]
theorem fm_put {l:List Fil} (hs:srt l) (f:Fil):fm (putAt l f)=up (fm l) f.name (some (f.data,f.sure)):=by
 unfold putAt;split
 ·rename_i h;obtain⟨hp,he⟩:=has_at h;rw[fm_set hs hp f he.symm,he]
 ·rename_i h;have h1:fm l f.name=none:=by
   cases hf:fm l f.name with
   | none=>rfl
   | some v=>exact absurd (by rw[fm_has hs,hf];rfl) h
  obtain⟨n,d,q⟩:=f;exact fm_ins hs d q h1
structure Dk (d d':Dsk):Prop where
 cap:d'.cap=d.cap
 armed:d'.armed=d.armed
 down:d.down=true->d'=d
 idle:d.armed=false->d.down=false->d'.down=false∧d'.left=d.left
theorem Dk.refl (d:Dsk):Dk d d:=⟨rfl,rfl,fun _=>rfl,fun _ h=>⟨h,rfl⟩⟩
theorem Dk.trans {a b c:Dsk} (h1:Dk a b) (h2:Dk b c):Dk a c :=
  ⟨h2.cap.trans h1.cap,h2.armed.trans h1.armed,fun h=>by have e:=h1.down h;rw[h2.down (by rw[e];exact h),e],
   fun ha hd=>by
    have e1:=h1.idle ha hd
    have e2:=h2.idle (h1.armed.trans ha) e1.1
    exact⟨e2.1,e2.2.trans e1.2⟩⟩
def Out (d:Dsk) (r:Dsk × Int) (X:List Txt) (G:FM) (G9:Option FM):Prop :=
 Dk d r.1∧srt r.1.files∧((r.2=0∧r.1.down=false∧fm r.1.files=G)∨(∃ g,G9=some g∧r.2=9∧r.1.down=false∧fm r.1.files=g)∨(r.2=10∧r.1.down=true∧∀ n,n ∉ X->fm r.1.files n=fm d.files n))
theorem Out.up9 {d:Dsk} {r:Dsk × Int} {X:List Txt} {G:FM} (h:Out d r X G none) (g:Option FM):Out d r X G g:=by
 refine⟨h.1,h.2.1,?_⟩;rcases h.2.2 with h|⟨_,h,_⟩|h
 ·exact .inl h
 ·cases h
 ·exact .inr (.inr h)
theorem chg_out {d:Dsk} (hs:srt d.files) {r:List Fil × Int} {G:FM} (h0:r.2=0) (h1:srt r.1) (h2:fm r.1=G):Out d (chgF d r) [] G none:=by
 unfold chgF;split
 ·rename_i hd;exact⟨Dk.refl d,hs,.inr (.inr ⟨rfl,hd,fun _ _=>rfl⟩)⟩
 ·rename_i hd;have hd:d.down=false:=by simpa using hd
  rw[if_neg (by simp[h0])]
  split
  ·rename_i ha;split
   ·exact⟨⟨rfl,rfl,fun h=>(by rw[hd] at h;cases h),fun h _=>(by rw[ha] at h;cases h)⟩,hs,.inr (.inr ⟨rfl,rfl,fun _ _=>rfl⟩)⟩
   ·exact⟨⟨rfl,rfl,fun h=>(by rw[hd] at h;cases h),fun h _=>(by rw[ha] at h;cases h)⟩,h1,.inl ⟨rfl,hd,h2⟩⟩
  ·exact⟨⟨rfl,rfl,fun h=>(by rw[hd] at h;cases h),fun _ h=>⟨h,rfl⟩⟩,h1,.inl ⟨rfl,hd,h2⟩⟩
theorem crt_out {d:Dsk} (hs:srt d.files) {n:Txt} (hn:namedF n=true) (h:fm d.files n=none):Out d (chgF d (crtR d.files n)) [] (up (fm d.files) n (some ([],0))) none:=by
 have hf:hasF d.files n=false:=by rw[fm_has hs,h];rfl
 have e:crtR d.files n=(insF d.files (posF d.files n) ⟨n,[],0⟩,0):=by unfold crtR;rw[if_pos hn,hf];rfl
 rw[e];exact chg_out hs rfl (srt_ins hs ⟨n,[],0⟩ hf) (fm_ins hs [] 0 h)
theorem upd_fm {l:List Fil} (hs:srt l) {n:Txt} {v:Txt × Int} (h:fm l n=some v) (f:Fil->Fil) (hf:∀ x,(f x).name=x.name) :
  srt (updF l (posF l n) f)∧fm (updF l (posF l n) f)=up (fm l) n (some ((f ⟨n,v.1,v.2⟩).data,(f ⟨n,v.1,v.2⟩).sure)):=by
 obtain⟨hp,he,hv⟩:=fm_pos hs h;refine⟨srt_names (upd_names l _ f hf) hs,?_⟩;have e2:l[posF l n]=⟨n,v.1,v.2⟩:=by
  generalize l[posF l n]=x at *;obtain⟨a,b,c⟩:=x;simp only at he hv;subst he hv;try rfl
 rw[upd_at hp,fm_set hs hp _ (by rw[hf]),he,e2]
theorem app_out {d:Dsk} (hs:srt d.files) {n:Txt} (x:Txt) {v:Txt × Int} (h:fm d.files n=some v):Out d (chgF d (appR d.files d.cap n x)) [] (up (fm d.files) n (some (v.1++x,v.2))) (some (fm d.files)):=by
 have hf:hasF d.files n=true:=by rw[fm_has hs,h];rfl
 by_cases c:0<d.cap∧d.cap-(usedF d.files:Nat)<x.length
 ·have e:appR d.files d.cap n x=([],9):=by unfold appR;rw[if_pos hf,if_pos c]
  rw[e];unfold chgF;split
  ·rename_i hd;exact⟨Dk.refl d,hs,.inr (.inr ⟨rfl,hd,fun _ _=>rfl⟩)⟩
  ·rename_i hd;rw[if_pos (by decide)]
   exact⟨Dk.refl d,hs,.inr (.inl ⟨_,rfl,rfl,by simpa using hd,rfl⟩)⟩
 ·have e:appR d.files d.cap n x=(updF d.files (posF d.files n) (fun f=>{ f with data:=f.data++x }),0):=by unfold appR;rw[if_pos hf,if_neg c]
  have hu:=upd_fm hs h (fun f=>{ f with data:=f.data++x }) (fun _=>rfl)
  rw[e];exact(chg_out hs rfl hu.1 hu.2).up9 _
theorem syn_out {d:Dsk} (hs:srt d.files) {n:Txt} {v:Txt × Int} (h:fm d.files n=some v):Out d (chgF d (synR d.files n)) [] (up (fm d.files) n (some (v.1,(v.1.length:Nat)))) none:=by
 have hf:hasF d.files n=true:=by rw[fm_has hs,h];rfl
 have e:synR d.files n=(updF d.files (posF d.files n) (fun f=>{ f with sure:=f.data.length }),0):=by unfold synR;rw[if_pos hf]
 have hu:=upd_fm hs h (fun f=>{ f with sure:=(f.data.length:Nat) }) (fun _=>rfl)
 rw[e];exact chg_out hs rfl hu.1 hu.2
theorem del_out {d:Dsk} (hs:srt d.files) {n:Txt} {v:Txt × Int} (h:fm d.files n=some v):Out d (chgF d (delR d.files n)) [] (up (fm d.files) n none) none:=by
 have hf:hasF d.files n=true:=by rw[fm_has hs,h];rfl
 have e:delR d.files n=(delF d.files (posF d.files n),0):=by unfold delR;rw[if_pos hf]
 obtain⟨hp,he⟩:=has_at hf;rw[e];exact chg_out hs rfl (srt_del hs _) (by rw[fm_del hs hp,he])
theorem ren_out {d:Dsk} (hs:srt d.files) {a b:Txt} (hb:namedF b=true) {v:Txt × Int} (h:fm d.files a=some v):Out d (chgF d (renR d.files a b)) [] (up (up (fm d.files) a none) b (some v)) none:=by
 have hf:hasF d.files a=true:=by rw[fm_has hs,h];rfl
 obtain⟨hp,he,hv⟩:=fm_pos hs h;have e:renR d.files a b=(putAt (delF d.files (posF d.files a)) (nameAt d.files (posF d.files a) b),0):=by unfold renR;rw[if_pos hf,if_pos hb]
 rw[e];refine chg_out hs rfl (srt_put (srt_del hs _) _) ?_;have e2:nameAt d.files (posF d.files a) b={ d.files[posF d.files a] with name:=b }:=by unfold nameAt;rw[List.getElem?_eq_getElem hp]
 rw[fm_put (srt_del hs _),fm_del hs hp,he,e2,<- hv]
theorem Out.seq {d:Dsk} {r1 r2:Dsk × Int} {X X1 X2:List Txt} {G1 G2:FM} {g g1 g2:Option FM} (h1:Out d r1 X1 G1 g1) (h2:r1.2=0->r1.1.down=false->fm r1.1.files=G1->srt r1.1.files->Out r1.1 r2 X2 G2 g2)
  (hG:∀ n,n ∉ X->G1 n=fm d.files n) (hx1:∀ n∈X1,n∈X) (hx2:∀ n∈X2,n∈X) (hg1:∀ q,g1=some q->g=some q) (hg2:∀ q,g2=some q->g=some q):Out d (if r1.2=0 then r2 else r1) X G2 g:=by
 obtain⟨k1,s1,o1⟩:=h1;rcases o1 with⟨e,hd,hf⟩|⟨q,hq,e,hd,hf⟩|⟨e,hd,hf⟩
 ·rw[if_pos e];obtain⟨k2,s2,o2⟩:=h2 e hd hf s1;refine⟨k1.trans k2,s2,?_⟩;rcases o2 with o2|⟨q,hq,o2⟩|⟨e2,hd2,hf2⟩
  ·exact .inl o2
  ·exact .inr (.inl ⟨q,hg2 q hq,o2⟩)
  ·refine .inr (.inr ⟨e2,hd2,fun n hn=>?_⟩)
   rw[hf2 n (fun hm=>hn (hx2 n hm)),hf]
   exact hG n hn
 ·rw[if_neg (by rw[e];decide)]
  exact⟨k1,s1,.inr (.inl ⟨q,hg1 q hq,e,hd,hf⟩)⟩
 ·rw[if_neg (by rw[e];decide)]
  exact⟨k1,s1,.inr (.inr ⟨e,hd,fun n hn=>hf n (fun hm=>hn (hx1 n hm))⟩)⟩
theorem Out.unl {d:Dsk} {r:Dsk × Int} {X:List Txt} {G g:FM} {n:Txt} {v:Txt × Int} (h:Out d r X G (some g)) (hn:g n=some v) (hg:∀ k,k ∉ X->g k=fm d.files k):Out d (unlS n r) X G (some (up g n none)):=by
 obtain⟨k1,s1,o1⟩:=h;obtain⟨r1,e⟩:=r;simp only at k1 s1 o1;rcases o1 with⟨rfl,hd,hf⟩|⟨q,hq,rfl,hd,hf⟩|⟨rfl,hd,hf⟩
 ·have:unlS n (r1,0)=(r1,0):=by unfold unlS;rw[if_pos (by simp)]
  rw[this];exact⟨k1,s1,.inl ⟨rfl,hd,hf⟩⟩
 ·cases hq;have e1:delS n (r1,0)=chgF r1 (delR r1.files n):=stp_ye _ _;have hdl:=del_out s1 (n:=n) (v:=v) (by rw[hf];exact hn)
  unfold unlS;rw[if_neg (by simp)]
  simp only[e1];generalize chgF r1 (delR r1.files n)=w at *;obtain⟨k2,s2,o2⟩:=hdl;rcases o2 with⟨e2,hd2,hf2⟩|⟨q,hq,_⟩|⟨e2,hd2,hf2⟩
  ·rw[if_pos e2];exact⟨k1.trans k2,s2,.inr (.inl ⟨_,rfl,rfl,hd2,by rw[hf2,hf]⟩)⟩
  ·cases hq
  ·rw[if_neg (by rw[e2];decide)]
   refine⟨k1.trans k2,s2,.inr (.inr ⟨e2,hd2,fun k hk=>?_⟩)⟩
   rw[hf2 k (by simp),hf]
   exact hg k hk
 ·have:unlS n (r1,10)=(r1,10):=by unfold unlS;rw[if_pos (by simp)]
  rw[this];exact⟨k1,s1,.inr (.inr ⟨rfl,hd,hf⟩)⟩
def goP (l:List Txt) (s:Dsk × Int):Dsk × Int:=l.foldl (fun s n=>delS n s) s
theorem goP_cons (n:Txt) (l:List Txt) (s:Dsk × Int):goP (n::l) s=goP l (delS n s):=rfl
theorem goP_err (l:List Txt) (s:Dsk × Int) (h:s.2≠0):goP l s=s:=by
 induction l with
 | nil=>rfl
 | cons n l ih=>rw[goP_cons,show delS n s=s from stp_no h _];exact ih
def oldN (s:Sto) (k:Nat):List Txt:=(s.segs.take k).map (fun g=>fileN g.base)++(if 0<s.floor then[snapN s.floor] else[])
theorem dels_go (l:List Seg) (q:Dsk × Int):delsF l q=goP (l.map fun g=>fileN g.base) q:=by
 unfold delsF goP;rw[List.foldl_map]
theorem old_go (s:Sto) (k:Nat) (q:Dsk × Int):oldT s k q=goP (oldN s k) q:=by
 unfold oldT oldN;simp only[];rw[dels_go];unfold goP;rw[List.foldl_append];generalize List.foldl (fun s n=>delS n s) q ((s.segs.take k).map fun g=>fileN g.base)=r
 by_cases c:0<s.floor
 ·rw[if_pos c];by_cases c2:r.2=0
  ·rw[if_pos ⟨c2,c⟩];rfl
  ·rw[if_neg (fun h=>c2 h.1)]
   show r=delS (snapN s.floor) r;exact(stp_no c2 _).symm
 ·rw[if_neg (fun h=>c h.2),if_neg c];rfl
theorem chg_down {d:Dsk} (h:d.down=true) (r:List Fil × Int):chgF d r=(d,10):=by unfold chgF;rw[if_pos h]
theorem Out.dn {d:Dsk} (hs:srt d.files) (h:d.down=true) (X:List Txt) (G:FM) (g:Option FM):Out d (d,10) X G g:=⟨Dk.refl d,hs,.inr (.inr ⟨rfl,h,fun _ _=>rfl⟩)⟩
theorem Out.eq {d:Dsk} {r:Dsk × Int} {X:List Txt} {G G':FM} {g g':Option FM} (h:Out d r X G g) (h1:G=G') (h2:g=g'):Out d r X G' g':=h1 ▸ h2 ▸ h
theorem n110 (n:Txt) (h:2<=n.length):n≠[110]:=fun e=>by rw[e] at h;simp at h
theorem pair_eq {r:Dsk × Int} (h:r.2=0):r=(r.1,0):=by rw[<- h]
def manV (m:Man):Option (Txt × Int):=some (manText m,((manText m).length:Nat))
theorem swap_out {d:Dsk} (hs:srt d.files) {m:Man} (hm:manB m=true) (hn:d.down=false->fm d.files [110]=none):Out d (swapS m (d,0)) [[110]] (up (fm d.files) [109] (manV m)) (some (fm d.files)):=by
 have hp:manPut m=(manText m,0):=by unfold manPut;rw[if_pos hm]
 by_cases hd:d.down=true
 ·have e:swapS m (d,0)=(d,10):=by
   have e1:∀ s:Dsk × Int,s=(d,0)∨s=(d,10)->crtS [110] s=(d,10):=by
    rintro s (rfl|rfl)
    ·show chgF d _=_;exact chg_down hd _
    ·rfl
   have e2:(if(readF d.files [110]).2=0 then delS [110] (d,0) else(d,0))=(d,0)∨(if(readF d.files [110]).2=0 then delS [110] (d,0) else(d,0))=(d,10):=by
    split
    ·exact .inr (chg_down hd _)
    ·exact .inl rfl
   unfold swapS;simp only[hp,if_true];rw[e1 _ e2];try rfl
  rw[e];exact .dn hs hd _ _ _
 ·have hn:=hn (by simpa using hd)
  have hr:(readF d.files [110]).2≠0:=by rw[fm_read hs,hn];decide
  have e:swapS m (d,0)=if(chgF d (crtR d.files [110])).2=0 then renS [110] [109] (synS [110] (unlS [110] (appS [110] (manText m) (chgF d (crtR d.files [110]))))) else chgF d (crtR d.files [110]):=by
   have e1:crtS [110] (d,0)=chgF d (crtR d.files [110]):=stp_ye _ _;unfold swapS;simp only[hp,if_true,if_neg hr,e1];by_cases h:(chgF d (crtR d.files [110])).2=0
   ·rw[if_neg (by simp[h]),if_pos h]
   ·rw[if_pos h,if_neg h]
  rw[e];refine Out.seq (crt_out hs (by decide) hn) (g1:=none) (g2:=some (fm d.files)) ?_ ?_ (by simp) (X2:=[[110]]) (by simp) (by simp) (by simp)
  ·intro h0 hd1 hf1 hs1;rw[pair_eq h0];generalize (chgF d (crtR d.files [110])).1=d1 at *;have ea:appS [110] (manText m) (d1,0)=chgF d1 (appR d1.files d1.cap [110] (manText m)):=stp_ye _ _;rw[ea];have h1:=app_out hs1 (manText m) (n:=[110]) (v:=([],0)) (by rw[hf1,up_at])
   have h2:=h1.unl (n:=[110]) (v:=([],0)) (by rw[hf1,up_at]) (fun _ _=>rfl)
   have h3:=Out.seq (X:=[[110]]) (g:=some (fm d.files)) h2 (r2:=synS [110] ((unlS [110] (chgF d1 (appR d1.files d1.cap [110] (manText m)))).1,0)) (X2:=[]) (G2:=up (up (fm d1.files) [110] (some ([]++manText m,0))) [110] (manV m)) (g2:=none)
    (fun h0 hd2 hf2 hs2=>(by
     have:=syn_out hs2 (n:=[110]) (v:=([]++manText m,0)) (by rw[hf2,up_at])
     rw[hf2] at this;exact this)) (fun n hn=>up_ne _ _ (by simpa using hn)) (by simp) (by simp)
    (fun q hq=>by cases hq;rw[hf1,up_up,up_self hn]) (by simp)
   have e3:synS [110] (unlS [110] (chgF d1 (appR d1.files d1.cap [110] (manText m))))=if(unlS [110] (chgF d1 (appR d1.files d1.cap [110] (manText m)))).2=0 then synS [110] ((unlS [110] (chgF d1 (appR d1.files d1.cap [110] (manText m)))).1,0) else unlS [110] (chgF d1 (appR d1.files d1.cap [110] (manText m))):=by
    split
    ·rename_i h;rw[<- pair_eq h]
    ·rename_i h;exact stp_no h _
   rw[<- e3] at h3;generalize synS [110] (unlS [110] (chgF d1 (appR d1.files d1.cap [110] (manText m))))=w at *;have h4:=Out.seq (X:=[[110]]) (g:=some (fm d.files)) h3 (r2:=chgF w.1 (renR w.1.files [110] [109])) (X2:=[]) (G2:=up (fm d.files) [109] (manV m)) (g2:=none)
    (fun h0 hd2 hf2 hs2=>(by
     have:=ren_out hs2 (a:=[110]) (b:=[109]) (by decide) (v:=(manText m,((manText m).length:Nat))) (by rw[hf2,up_at];rfl)
     refine this.eq ?_ rfl;rw[hf2,hf1,up_up,up_up,up_up,up_self hn];rfl)) (fun n hn=>by rw[up_up];exact up_ne _ _ (by simpa using hn)) (by simp) (by simp) (by simp) (by simp)
   exact h4
  ·intro n hn;exact up_ne _ _ (by simpa using hn)
theorem crt_swap_out {d:Dsk} (hs:srt d.files) {n:Txt} {m:Man} (hm:manB m=true) (hnm:namedF n=true) (hn2:n≠[110]) (h1:d.down=false->fm d.files [110]=none) (h2:d.down=false->fm d.files n=none) :
  Out d (if(crtS n (d,0)).2=0 then unlS n (swapS m (crtS n (d,0))) else crtS n (d,0)) [n,[110]] (up (up (fm d.files) n (some ([],0))) [109] (manV m)) (some (fm d.files)):=by
 have e1:crtS n (d,0)=chgF d (crtR d.files n):=stp_ye _ _;rw[e1];by_cases hd:d.down=true
 ·rw[chg_down hd,if_neg (by simp)]
  exact .dn hs hd _ _ _
 ·have hd:d.down=false:=by simpa using hd
  refine Out.seq (crt_out hs hnm (h2 hd)) (g1:=none) (g2:=some (fm d.files)) ?_ ?_ (by simp) (X2:=[[110]]) (by simp) (by simp) (by simp)
  ·intro h0 hd1 hf1 hs1;rw[pair_eq h0];generalize (chgF d (crtR d.files n)).1=d1 at *;have h3:=swap_out hs1 hm (fun _=>by rw[hf1,up_ne _ _ (fun e=>hn2 e.symm)];exact h1 hd)
   have h4:=h3.unl (n:=n) (v:=([],0)) (by rw[hf1,up_at]) (fun _ _=>rfl)
   rw[hf1,up_up,up_self (h2 hd)] at h4;exact h4
  ·intro k hk;exact up_ne _ _ (fun e=>hk (by simp[e]))
theorem lay_out {d:Dsk} (hs:srt d.files) {n x:Txt} {m:Man} (hm:manB m=true) (hnm:namedF n=true) (hn2:n≠[110]) (h1:d.down=false->fm d.files [110]=none) (h2:d.down=false->fm d.files n=none) :
  Out d (layT d n x m) [n,[110]] (up (up (fm d.files) n (some (x,(x.length:Nat)))) [109] (manV m)) (some (fm d.files)):=by
 have e1:crtS n (d,0)=chgF d (crtR d.files n):=stp_ye _ _;unfold layT;simp only[e1];by_cases hd:d.down=true
 ·rw[chg_down hd];have e2:synS n (d,10)=(d,10):=rfl;simp only[e2];exact .dn hs hd _ _ _
 ·have hd:d.down=false:=by simpa using hd
  have k1:=Out.seq (X:=[n]) (g:=some (fm d.files)) (crt_out hs hnm (h2 hd)) (r2:=unlS n (appS n x (chgF d (crtR d.files n)))) (G2:=up (fm d.files) n (some (x,0))) (g2:=some (fm d.files)) (X2:=[]) (by
   intro h0 hd1 hf1 hs1;rw[pair_eq h0];generalize (chgF d (crtR d.files n)).1=d1 at *;have ea:appS n x (d1,0)=chgF d1 (appR d1.files d1.cap n x):=stp_ye _ _;rw[ea];have h3:=(app_out hs1 x (n:=n) (v:=([],0)) (by rw[hf1,up_at])).unl (n:=n) (v:=([],0)) (by rw[hf1,up_at]) (fun _ _=>rfl)
   rw[hf1,up_up,up_up,up_self (h2 hd)] at h3;exact h3) (fun k hk=>up_ne _ _ (by simpa using hk)) (by simp) (by simp) (by simp) (by simp)
  generalize (if(chgF d (crtR d.files n)).2=0 then unlS n (appS n x (chgF d (crtR d.files n))) else chgF d (crtR d.files n))=b at *
  have k2:=Out.seq (X:=[n]) (g:=some (fm d.files)) k1 (r2:=chgF b.1 (synR b.1.files n)) (G2:=up (fm d.files) n (some (x,(x.length:Nat)))) (g2:=none) (X2:=[]) (by
   intro h0 hd1 hf1 hs1;have:=syn_out hs1 (n:=n) (v:=(x,0)) (by rw[hf1,up_at])
   rw[hf1,up_up] at this;exact this) (fun k hk=>up_ne _ _ (by simpa using hk)) (by simp) (by simp) (by simp) (by simp)
  have e3:(if b.2=0 then chgF b.1 (synR b.1.files n) else b)=synS n b:=rfl
  rw[e3] at k2;generalize synS n b=c at *;refine Out.seq (X:=[n,[110]]) k2 (g:=some (fm d.files)) (g2:=some (fm d.files)) (X2:=[[110]]) ?_ ?_ (by simp) (by simp) (by simp) (by simp)
  ·intro h0 hd1 hf1 hs1;rw[pair_eq h0];have h3:=swap_out hs1 hm (fun _=>by rw[hf1,up_ne _ _ (fun e=>hn2 e.symm)];exact h1 hd)
   have h4:=h3.unl (n:=n) (v:=(x,((x.length:Nat):Int))) (by rw[hf1,up_at]) (fun _ _=>rfl)
   rw[hf1,up_up,up_self (h2 hd)] at h4;exact h4
  ·intro k hk;exact up_ne _ _ (fun e=>hk (by simp[e]))
def rmv (l:List Txt) (F:FM):FM:=fun k=>if k∈l then none else F k
theorem goP_out:∀ (l:List Txt) (d:Dsk),srt d.files->l.Nodup->d.down=false->(∀ n∈l,fm d.files n≠none)->Out d (goP l (d,0)) l (rmv l (fm d.files)) none
 | [],d,hs,_,hd,_=>⟨Dk.refl d,hs,.inl ⟨rfl,hd,by funext k;simp[rmv,goP]⟩⟩
 | n::l,d,hs,hn,hd,h=>by
  have hn:=List.nodup_cons.1 hn;obtain⟨v,hv⟩:=Option.ne_none_iff_exists'.1 (h n (by simp))
  have e1:delS n (d,0)=chgF d (delR d.files n):=stp_ye _ _;rw[goP_cons,e1];have h1:=del_out hs hv;have e2:goP l (chgF d (delR d.files n))=if(chgF d (delR d.files n)).2=0 then goP l ((chgF d (delR d.files n)).1,0) else chgF d (delR d.files n):=by
   split
   ·rename_i h0;rw[<- pair_eq h0]
   ·rename_i h0;exact goP_err l _ h0
  rw[e2];refine Out.seq h1 (X2:=l) (g2:=none) ?_ ?_ (by simp) (fun k hk=>by simp[hk]) (by simp) (by simp)
  ·intro h0 hd1 hf1 hs1;have h2:=goP_out l (chgF d (delR d.files n)).1 hs1 hn.2 hd1 (fun k hk=>by
    rw[hf1,up_ne _ _ (fun e=>hn.1 (by rw[<- e];exact hk))];exact h k (by simp[hk]))
   rw[hf1] at h2;refine h2.eq ?_ rfl;funext k
   unfold rmv;by_cases c:k=n
   ·simp[c,hn.1,up_at]
   ·by_cases c2:k∈l
    ·rw[if_pos c2,if_pos (List.mem_cons_of_mem _ c2)]
    ·rw[if_neg c2,if_neg (by simp[c,c2]),up_ne _ _ c]
  ·intro k hk;exact up_ne _ _ (fun e=>hk (by simp[e]))
structure Act where
 kind:Int
 n:Int
 data:List UInt8
 deriving DecidableEq
def Act.enc (e:Act):List D:=[.i .i64 e.kind,.i .i64 e.n,.s e.data]
theorem Act.len (e:Act):e.enc.length=3:=Eq.trans rfl rfl
theorem Act.tk (e:Act):e.enc.take 3=e.enc:=Eq.trans rfl rfl
theorem Act.tkL (e:Act):(e.enc.map L.d).take 3=e.enc.map L.d:=Eq.trans rfl rfl
theorem Act.dat (e:Act):dataLs (e.enc.map L.d)=some (e.enc.map L.d):=Eq.trans rfl rfl
theorem Act.rfs (e:Act):(e.enc.map L.d).flatMap L.refs=[]:=Eq.trans rfl rfl
theorem Act.rn (e:Act) (g:Nat->Option Nat):(e.enc.map L.d).map (L.ren g)=e.enc.map L.d:=Eq.trans rfl rfl
theorem Act.lenL (e:Act):(e.enc.map L.d).length=3:=Eq.trans rfl rfl
theorem Act.at0 (e:Act):e.enc[0]?=some (.i .i64 e.kind):=Eq.trans rfl rfl
theorem Act.fd0 (e:Act):(e.enc.map L.d)[0]?=some (.d (.i .i64 e.kind)):=Eq.trans rfl rfl
theorem Act.at1 (e:Act):(e.enc.drop 1)[0]?=some (.i .i64 e.n):=Eq.trans rfl rfl
theorem Act.fd1 (e:Act):(e.enc.map L.d)[1]?=some (.d (.i .i64 e.n)):=Eq.trans rfl rfl
theorem Act.at2 (e:Act):(e.enc.drop 2)[0]?=some (.s e.data):=Eq.trans rfl rfl
theorem Act.fd2 (e:Act):(e.enc.map L.d)[2]?=some (.d (.s e.data)):=Eq.trans rfl rfl
theorem Act.up1 (e:Act) (x:Int):e.enc.take 1++[.i .i64 x]++e.enc.drop 2=({ e with n:=x }:Act).enc:=Eq.trans rfl rfl
theorem Act.up2 (e:Act) (x:List UInt8):e.enc.take 2++[.s x]++e.enc.drop 3=({ e with data:=x }:Act).enc:=Eq.trans rfl rfl
def Act.ok (e:Act):Prop:=(-9223372036854775808<=e.kind∧e.kind<9223372036854775808)∧(-9223372036854775808<=e.n∧e.n<9223372036854775808)∧e.data.length<=9223372036854775807
def Act.ty:List Ty:=[.i .i64,.i .i64,.s]
theorem Act.eqs (a b:Act):scEqs [0,0,2] (a.enc.map L.d) (b.enc.map L.d)=some (decide (a=b)):=by
 cases a;cases b;simp only[Act.enc,List.map_cons,List.map_nil,scEqs,scEq,if_true,Act.mk.injEq];congr 1
 rw[Bool.eq_iff_iff];simp only[Bool.and_eq_true,beq_iff_eq,decide_eq_true_eq,and_true]
theorem Act.of (r:List D) (h:wfRow Act.ty r):∃ e:Act,r=e.enc∧e.ok:=by
 simp only[Act.ty,wfRow,wfT] at h;obtain⟨_,_,rfl,⟨x0,rfl,h0,g0⟩,⟨_,_,rfl,⟨x1,rfl,h1,g1⟩,⟨_,_,rfl,⟨x2,rfl,h2⟩,rfl⟩⟩⟩:=h;refine⟨⟨x0,x1,x2⟩,rfl,?_⟩;exact⟨⟨Int.le_trans (by decide) h0,Int.lt_of_le_of_lt g0 (by decide)⟩,⟨Int.le_trans (by decide) h1,Int.lt_of_le_of_lt g1 (by decide)⟩,h2⟩
def armD (d:Dsk) (n:Int):Dsk:={ d with armed:=decide (0<=n),left:=if 0<n then n else 0 }
def limD (d:Dsk) (n:Int):Dsk:={ d with cap:=if 0<n then n else 0 }
theorem arm_spec (d:Dsk) (n:Int) (hn : -9223372036854775808<=n∧n<9223372036854775808):call 14 [.agg d.l,vi n] []=some (.agg (armD d n).l,[]):=by
 apply enterS s14 rfl;obtain⟨fl,cp,ar,lf,dn⟩:=d;unfold armD;by_cases c:0<n
 ·have c2:0<=n:=by omega
  (simp(disch:=first|decide|omega|(intros;exact Eq.trans rfl rfl)|simp only[puri]) only[wkf,a14,Dsk.l,c,c2,go_sem,seval,dis])
  try simp[trim]
  try omega
 ·have c3:¬ n > 0:=c;(simp(disch:=first|decide|omega|(intros;exact Eq.trans rfl rfl)|simp only[puri]) only[wkf,a14,Dsk.l,c,go_sem,seval,dis])
  try simp[trim]
  try omega
theorem lim_spec (d:Dsk) (n:Int) (hn : -9223372036854775808<=n∧n<9223372036854775808):call 74 [.agg d.l,vi n] []=some (.agg (limD d n).l,[]):=by
 apply enterS s74 rfl;obtain⟨fl,cp,ar,lf,dn⟩:=d;unfold limD;by_cases c:0<n
 ·(simp(disch:=first|decide|omega|(intros;exact Eq.trans rfl rfl)|simp only[puri]) only[wkf,a74,Dsk.l,c,go_sem,seval,dis])
  try simp[trim]
  try omega
 ·(simp(disch:=first|decide|omega|(intros;exact Eq.trans rfl rfl)|simp only[puri]) only[wkf,a74,Dsk.l,c,go_sem,seval,dis])
  try simp[trim]
  try omega
variable {f:Int} {S:Txt} {l0:List Pr} {s:Sto} {M:List SR} {g:Seg} {l:List Rec}
theorem snapN_len (n:Int):(snapN n).length=14:=by simp[snapN,nameF]
theorem fileN_len (n:Int):(fileN n).length=14:=by simp[fileN,nameF]
theorem snap_file (a b:Int):snapN a≠fileN b:=fun h=>by
 have:(snapN a)[0]?=(fileN b)[0]?:=by rw[h]
 simp[snapN,fileN,nameF] at this
theorem n109 (n:Txt) (h:2<=n.length):n≠[109]:=fun e=>by rw[e] at h;simp at h
theorem nameF_digA {c:UInt8} {a b:Nat} (h:nameF c a=nameF c b):nameF 115 a=nameF 115 b:=by
 unfold nameF at h ⊢;rw[(List.cons.inj h).2]
theorem snapN_inj {a b:Int} (ha:0<=a∧a<=1099511627776) (hb:0<=b∧b<=1099511627776) (h:snapN a=snapN b):a=b:=fileN_inj ha hb (nameF_digA h)
theorem namedN (n:Int):namedF (fileN n)=true:=by
 have:=fileN_len n;have h2:fileN n≠[]:=fun e=>by rw[e] at this;simp at this
 simp[namedF,h2,this]
theorem namedS (n:Int):namedF (snapN n)=true:=by
 have:=snapN_len n;have h2:snapN n≠[]:=fun e=>by rw[e] at this;simp at this
 simp[namedF,h2,this]
def rel (f:Int) (s:Sto) (n:Txt):Prop:=n=[109]∨(∃ g∈s.segs,n=fileN g.base)∨(0<f∧n=snapN f)
theorem rel_110 (f:Int) (s:Sto):¬ rel f s [110]:=by
 rintro(h|⟨g,_,h⟩|⟨_,h⟩)
 ·simp at h
 ·exact n110 _ (by rw[fileN_len];decide) h.symm
 ·exact n110 _ (by rw[snapN_len];decide) h.symm
def Snp (f:Int) (S:Txt) (l0:List Pr) (s:Sto):Prop :=
 (f=0∧S=[]∧l0=[]∧s.size=0∧s.sum=0)∨(0<f∧fm s.disk.files (snapN f)=some (S,((S.length:Nat):Int))∧parseF S=some l0∧s.size=((S.length:Nat):Int)∧s.sum=sumT S)
structure W (f:Int) (S:Txt) (l0:List Pr) (s:Sto) (M:List SR) (g:Seg) (l:List Rec):Prop where
 inv:Inv f s M g l
 snp:Snp f S l0 s
 man:fm s.disk.files [109]=manV s.man
 right:manB s.man=true
 full:∀ p∈M,fm s.disk.files (fileN p.1.base)=some (rowS p.2,(((rowS p.2).length:Nat):Int))
 last:∃ q:Nat,fm s.disk.files (fileN g.base)=some (rowS l,((q:Nat):Int))∧(rowS (l.take (s.sure-g.base).toNat)).length<=q∧q<=(rowS l).length
 lo:g.base<=s.sure
 only:s.disk.down=false->∀ n,fm s.disk.files n≠none->rel f s n
theorem W.mem (h:W f S l0 s M g l):∀ p∈M++[(g,l)],p.1∈s.segs:=by
 intro p hp;rw[h.inv.segs];rcases List.mem_append.1 hp with hp|hp
 ·exact List.mem_append_left _ (List.mem_map_of_mem hp)
 ·rw[List.mem_singleton.1 hp];simp
theorem W.keep (h:W f S l0 s M g l) (hs:srt s.disk.files) {d:Dsk} (hs':srt d.files) (hk:∀ n,rel f s n->fm d.files n=fm s.disk.files n)
  (hd:d.down=true∨(fm d.files=fm s.disk.files∧s.disk.down=false)):W f S l0 { s with disk:=d } M g l:=by
 have hm:=h.mem;refine⟨h.inv.disk d fun p hp hh=>?_,?_,?_,h.right,fun p hp=>?_,?_,h.lo,fun hdn n hn=>?_⟩
 ·rw[fm_hasD hs] at hh;rw[fm_hasD hs',hk _ (.inr (.inl ⟨_,hm p hp,rfl⟩))];exact hh
 ·rcases h.snp with h1|⟨h1,h2,h3⟩
  ·exact .inl h1
  ·exact .inr ⟨h1,by show fm d.files _=_;rw[hk _ (.inr (.inr ⟨h1,rfl⟩))];exact h2,h3⟩
 ·show fm d.files _=_;rw[hk _ (.inl rfl)];exact h.man
 ·show fm d.files _=_;rw[hk _ (.inr (.inl ⟨_,hm p (List.mem_append_left _ hp),rfl⟩))];exact h.full p hp
 ·obtain⟨q,h1,h2⟩:=h.last;exact⟨q,by show fm d.files _=_;rw[hk _ (.inr (.inl ⟨_,hm (g,l) (by simp),rfl⟩))];exact h1,h2⟩
 ·rcases hd with hd|⟨h1,h2⟩
  ·rw[show d.down=false from hdn] at hd;cases hd
  ·exact h.only h2 n (by rw[<- h1];exact hn)
theorem W.fail (h:W f S l0 s M g l) (hs:srt s.disk.files) {r:Dsk × Int} {X:List Txt} {G:FM} (hO:Out s.disk r X G (some (fm s.disk.files))) (he:r.2≠0) (hX:∀ n∈X,¬ rel f s n) :
  W f S l0 { s with disk:=r.1 } M g l∧((r.2=9∧fm r.1.files=fm s.disk.files∧r.1.down=false)∨(r.2=10∧r.1.down=true)):=by
 obtain⟨k,s1,o⟩:=hO;rcases o with⟨e,_⟩|⟨q,hq,e,hd,hf⟩|⟨e,hd,hf⟩
 ·exact absurd e he
 ·cases hq;have h0:s.disk.down=false:=by
   cases hx:s.disk.down with
   | false=>rfl
   | true=>rw[k.down hx,hx] at hd;cases hd
  exact⟨h.keep hs s1 (fun n _=>by rw[hf]) (.inr ⟨hf,h0⟩),.inl ⟨e,hf,hd⟩⟩
 ·exact⟨h.keep hs s1 (fun n hn=>hf n (fun hx=>hX n hx hn)) (.inl hd),.inr ⟨e,hd⟩⟩
theorem W.same (h:W f S l0 s M g l) (hs:srt s.disk.files) {d:Dsk} (hf:d.files=s.disk.files) (hd:d.down=s.disk.down):W f S l0 { s with disk:=d } M g l:=by
 refine h.keep hs (by rw[hf];exact hs) (fun n _=>by rw[hf]) ?_
 cases hx:s.disk.down with
 | true=>exact .inl (hd.trans hx)
 | false=>exact .inr ⟨by rw[hf],rfl⟩
theorem W.arm (h:W f S l0 s M g l) (hs:srt s.disk.files) (n:Int):W f S l0 { s with disk:=armD s.disk n } M g l:=h.same hs rfl rfl
theorem W.lim (h:W f S l0 s M g l) (hs:srt s.disk.files) (n:Int):W f S l0 { s with disk:=limD s.disk n } M g l:=h.same hs rfl rfl
theorem bases_lt {f:Int} {M:List SR} {g:Seg} (h:chainM f M g.base):∀ p∈M,p.1.base<g.base:=fun p hp=>by
 have:=(chain_mem _ _ _ h).2 p hp;omega
theorem incB_iff:∀ (l:List Int) (a:Int),incB a l=true↔(l.Pairwise (· < ·)∧∀ n∈l,a<n∧n<=1099511627776)
 | [],a=>by simp[incB]
 | x::r,a=>by
  have ih:=incB_iff r x;simp only[incB,Bool.and_eq_true,decide_eq_true_eq,ih,List.pairwise_cons,List.mem_cons];constructor
  ·rintro⟨h1,h2,h3⟩;exact⟨⟨fun b hb=>(h3 b hb).1,h2⟩,fun n hn=>by
    rcases hn with rfl|hn
    ·exact h1
    ·have:=h3 n hn;exact⟨by omega,this.2⟩⟩
  ·rintro⟨⟨h1,h2⟩,h3⟩;exact⟨h3 x (.inl rfl),h2,fun n hn=>⟨h1 n hn,(h3 n (.inr hn)).2⟩⟩
theorem manB_mk {m:Man} (hv:1<=m.ver∧m.ver<=1099511627776) (hl:1<=m.segs.length∧m.segs.length<=64) (hi:incB (-1) m.segs=true) (hz:(m.segs.head?=some 0∧m.size=0∧m.sum=0)∨(m.segs.head?≠some 0∧0<m.size∧m.size<=65536)):manB m=true:=by
 unfold manB;rw[hi,Bool.true_and,Bool.and_eq_true];refine⟨by simpa using⟨hv.1,hv.2,hl.1,hl.2⟩,?_⟩
 rcases hz with⟨h1,h2,h3⟩|⟨h1,h2,h3⟩
 ·rw[if_pos h1];simp[h2,h3]
 ·rw[if_neg h1];simp[h2,h3]
theorem manB_z {m:Man} (h:manB m=true):(m.segs.head?=some 0∧m.size=0∧m.sum=0)∨(m.segs.head?≠some 0∧0<m.size∧m.size<=65536):=by
 unfold manB at h;rw[Bool.and_eq_true,Bool.and_eq_true] at h;have h2:=h.2.2;by_cases c:m.segs.head?=some 0
 ·rw[if_pos c] at h2;exact .inl ⟨c,by simpa using h2⟩
 ·rw[if_neg c] at h2;exact .inr ⟨c,by simpa using h2⟩
variable {k u:Nat} {f:Int} {S:Txt} {l0:List Pr} {s:Sto} {M:List SR} {g:Seg} {l:List Rec}
theorem W.file_ne (ho:okS k u s) (h:W f S l0 s M g l):∀ p∈M,fileN p.1.base≠fileN g.base:=fun p hp e=>by
 have h1:=(ho.seg _ (h.mem p (List.mem_append_left _ hp))).1;have h2:=(ho.seg _ (h.mem (g,l) (by simp))).1
 have:p.1.base=g.base:=fileN_inj h1 h2 e;have:=bases_lt h.inv.chain p hp;omega
theorem Dk.up_of {d d':Dsk} (h:Dk d d') (hd:d'.down=false):d.down=false:=by
 cases hx:d.down with
 | false=>rfl
 | true=>rw[h.down hx,hx] at hd;cases hd
theorem W.change (ho:okS k u s) (h:W f S l0 s M g l) {s':Sto} {g':Seg} {l':List Rec} {x:Txt} {q:Nat} (hi:Inv f s' M g' l') (hb:g'.base=g.base) (hf:fm s'.disk.files=up (fm s.disk.files) (fileN g.base) (some (x,((q:Nat):Int)))) (hd:s.disk.down=false)
  (hm:s'.man=s.man) (hz:s'.size=s.size∧s'.sum=s.sum) (hx:x=rowS l') (h1:(rowS (l'.take (s'.sure-g.base).toNat)).length<=q∧q<=(rowS l').length) (hl:g.base<=s'.sure):W f S l0 s' M g' l':=by
 have hne:=h.file_ne ho;have hsg:∀ n,rel f s n->rel f s' n:=by
  rintro n (hn|⟨a,ha,hn⟩|hn)
  ·exact .inl hn
  ·refine .inr (.inl ?_);rw[h.inv.segs] at ha;rcases List.mem_append.1 ha with ha|ha
   ·exact⟨a,by rw[hi.segs];exact List.mem_append_left _ ha,hn⟩
   ·rw[List.mem_singleton.1 ha] at hn;exact⟨g',by rw[hi.segs];simp,by rw[hb];exact hn⟩
  ·exact .inr (.inr hn)
 refine⟨hi,?_,?_,by rw[hm];exact h.right,fun p hp=>?_,⟨q,?_,by rw[hb];exact h1⟩,by rw[hb];exact hl,fun _ n hn=>?_⟩
 ·rcases h.snp with h2|⟨h2,h3,h4⟩
  ·exact .inl ⟨h2.1,h2.2.1,h2.2.2.1,by rw[hz.1];exact h2.2.2.2.1,by rw[hz.2];exact h2.2.2.2.2⟩
  ·exact .inr ⟨h2,by rw[hf,up_ne _ _ (snap_file _ _)];exact h3,h4.1,by rw[hz.1];exact h4.2.1,by rw[hz.2];exact h4.2.2⟩
 ·rw[hf,hm,up_ne _ _ (n109 _ (by rw[fileN_len];decide)).symm];exact h.man
 ·rw[hf,up_ne _ _ (hne p hp)];exact h.full p hp
 ·rw[hf,hb,up_at,hx]
 ·by_cases c:n=fileN g.base
  ·exact hsg n (.inr (.inl ⟨g,h.mem (g,l) (by simp),c⟩))
  ·rw[hf,up_ne _ _ c] at hn;exact hsg n (h.only hd n hn)
theorem W.sync (ho:okS k u s) (h:W f S l0 s M g l):W f S l0 (syncT s).1 M g l∧(((syncT s).2=0∧(syncT s).1.sure=s.next∧(syncT s).1.disk.down=false)∨((syncT s).2=10∧(syncT s).1.disk.down=true∧(syncT s).1.sure=s.sure))∧(syncT s).1.disk.cap=s.disk.cap:=by
 have hi:=sync_inv ho h.inv ho.next.1;obtain⟨q,h1,h2,h3⟩:=h.last;have hO:=syn_out ho.dsk.srt h1;have hl:=h.inv.last;have es:syncT s=({ s with disk:=(chgF s.disk (synR s.disk.files (fileN g.base))).1,sure:=if(chgF s.disk (synR s.disk.files (fileN g.base))).2=0 then s.next else s.sure },(chgF s.disk (synR s.disk.files (fileN g.base))).2):=by unfold syncT;rw[hl]
 rw[es] at hi ⊢;generalize chgF s.disk (synR s.disk.files (fileN g.base))=r at *;have hnx:=h.inv.next;have hcap:=hO.1.cap;rcases hO.2.2 with⟨e,hd,hf⟩|⟨_,hc,_⟩|⟨e,hd,hf⟩
 ·have e1:(if r.2=0 then s.next else s.sure)=s.next:=if_pos e
  rw[e1] at hi ⊢;refine⟨h.change ho hi rfl hf (hO.1.up_of hd) rfl ⟨rfl,rfl⟩ rfl ⟨?_,Nat.le_refl _⟩ ?_,.inl ⟨e,rfl,hd⟩,hcap⟩
  ·simp only[];rw[List.take_of_length_le (by omega)];exact Nat.le_refl _
  ·simp only[];omega
 ·cases hc
 ·have e1:(if r.2=0 then s.next else s.sure)=s.sure:=if_neg (by rw[e];decide)
  rw[e1];exact⟨h.keep ho.dsk.srt hO.2.1 (fun n _=>hf n (by simp)) (.inl hd),.inr ⟨e,hd,rfl⟩,hcap⟩
theorem segs_man (h:Inv f s M g l) (a b:Int):((s.segs.dropLast++[⟨s.last.base,a,b⟩]:List Seg)).map Seg.base=s.segs.map Seg.base:=by
 rw[h.last,h.segs];simp
theorem W.put (ho:okS k u s) (h:W f S l0 s M g l) (r:Rec) (hr:whyF r=0) (ha:r.at_=s.next) :
  ((putT s (putF r).1).1.disk.cap=s.disk.cap∧(putT s (putF r).1).1.sure=s.sure)∧((W f S l0 (putT s (putF r).1).1 M g l∧(putT s (putF r).1).1.next=s.next∧(putT s (putF r).1).1.segs=s.segs∧(putT s (putF r).1).1.ver=s.ver∧((((putT s (putF r).1).2=9∧(putT s (putF r).1).1.disk.down=false)∨((putT s (putF r).1).2=10∧(putT s (putF r).1).1.disk.down=true)))) ∨
  ((putT s (putF r).1).2=0∧(putT s (putF r).1).1.disk.down=false∧W f S l0 (putT s (putF r).1).1 M ⟨g.base,g.n+1,g.size+(frameF (bodyF r)).length⟩ (l++[r]))):=by
 have hp:=put_inv ho h.inv r hr ha;have hl:=h.inv.last;have e1:(putF r).1=frameF (bodyF r):=by unfold putF;rw[if_pos hr]
 obtain⟨q,h1,h2,h3⟩:=h.last;have hO:=app_out ho.dsk.srt (frameF (bodyF r)) h1;have hsg:=segs_man h.inv (s.last.n+1) (s.last.size+((frameF (bodyF r)).length:Nat));have hnx:=h.inv.next;have hsu:=h.inv.sure;have es:putT s (putF r).1=if(chgF s.disk (appR s.disk.files s.disk.cap (fileN g.base) (frameF (bodyF r)))).2≠0 then({ s with disk:=(chgF s.disk (appR s.disk.files s.disk.cap (fileN g.base) (frameF (bodyF r)))).1 },(chgF s.disk (appR s.disk.files s.disk.cap (fileN g.base) (frameF (bodyF r)))).2) else({ addSeg s (frameF (bodyF r)).length with disk:=(chgF s.disk (appR s.disk.files s.disk.cap (fileN g.base) (frameF (bodyF r)))).1 },0):=by
  unfold putT;rw[hl,e1]
 rw[es] at hp ⊢;have hcap:=hO.1.cap;by_cases c:(chgF s.disk (appR s.disk.files s.disk.cap (fileN g.base) (frameF (bodyF r)))).2=0
 ·rw[if_neg (by simp[c])] at hp ⊢
  refine⟨⟨hcap,rfl⟩,.inr ?_⟩;rcases hp with⟨hp,_⟩|⟨_,hp⟩
  ·exact absurd rfl hp
  ·rcases hO.2.2 with⟨e,hd,hf⟩|⟨_,_,e,_⟩|⟨e,_⟩
   ·refine⟨rfl,hd,h.change ho hp rfl hf (hO.1.up_of hd) ?_ ⟨rfl,rfl⟩ (rowS_snoc _ _).symm ⟨?_,?_⟩ h.lo⟩
    ·show(⟨s.ver,(s.segs.dropLast++[_]).map Seg.base,s.size,s.sum⟩:Man)=s.man;rw[hsg];rfl
    ·show(rowS ((l++[r]).take (s.sure-g.base).toNat)).length<=q;rw[List.take_append_of_le_length (by omega)];exact h2
    ·rw[rowS_snoc,List.length_append];omega
   ·rw[e] at c;cases c
   ·rw[e] at c;cases c
 ·rw[if_pos c] at hp ⊢;refine⟨⟨hcap,rfl⟩,.inl ?_⟩;have:=h.fail ho.dsk.srt hO c (by simp)
  refine⟨this.1,rfl,rfl,rfl,?_⟩;rcases this.2 with⟨a,_,b⟩|h
  ·exact .inl ⟨a,b⟩
  ·exact .inr h
variable {k u:Nat} {f:Int} {S:Txt} {l0:List Pr} {s:Sto} {M:List SR} {g:Seg} {l:List Rec}
theorem W.man_inc (h:W f S l0 s M g l):(s.segs.map Seg.base).Pairwise (· < ·)∧(∀ n∈s.segs.map Seg.base,-1<n∧n<=1099511627776) :=
 (incB_iff _ _).1 (manB_t h.right).2.2.1
theorem W.head (h:W f S l0 s M g l):(s.segs.map Seg.base).head?=some f:=by
 rw[h.inv.segs];have hc:=h.inv.chain;cases M with
 | nil=>simp[chainM] at hc ⊢;omega
 | cons p r=>simp[chainM] at hc ⊢;omega
theorem rec_lt (h:Inv f s M g l) (hl:l≠[]):∀ a∈s.segs,a.base<s.next:=by
 intro a ha;have hn:=h.next;have hp:0<l.length:=List.length_pos_iff.2 hl;rw[h.segs] at ha;rcases List.mem_append.1 ha with ha|ha
 ·obtain⟨p,hp2,rfl⟩:=List.mem_map.1 ha;have:=bases_lt h.chain p hp2;omega
 ·rw[List.mem_singleton.1 ha];omega
theorem roll_right (h:W f S l0 s M g l) (hl:l≠[]) (hn:s.next<=1099511627776) (hv:s.ver+1<=1099511627776) (hlen:s.segs.length<64):manB (rollX s).man=true:=by
 have hm:=manB_t h.right;have hi:=h.man_inc;have hlt:=rec_lt h.inv hl;have hg0:=h.inv.next;have e:(rollX s).man.segs=s.segs.map Seg.base++[s.next]:=by show(s.segs++[_]).map Seg.base=_;simp
 have hv1:1<=s.ver:=hm.1.1;have h0:0<=s.next:=by have:=h.inv.sure;omega
 refine manB_mk ⟨by show 1<=s.ver+1;omega,hv⟩ ⟨by rw[e];simp,by rw[e];simp;omega⟩ ?_ ?_
 ·rw[e,incB_iff,List.pairwise_append];refine⟨⟨hi.1,by simp,fun a ha b hb=>?_⟩,fun n hx=>?_⟩
  ·obtain⟨c,hc,rfl⟩:=List.mem_map.1 ha;rw[List.mem_singleton.1 hb];exact hlt c hc
  ·rcases List.mem_append.1 hx with hx|hx
   ·exact hi.2 n hx
   ·rw[List.mem_singleton.1 hx];omega
 ·have hz:=manB_z h.right;have eh:(rollX s).man.segs.head?=s.man.segs.head?:=by
   rw[e];show _=(s.segs.map Seg.base).head?;rw[List.head?_append,h.head];rfl
  rw[eh];exact hz
theorem W.roll (ho:okS k u s) (h:W f S l0 s M g l) (hl:l≠[]) (hv:u<1000000000000) :
  (rollT s).1.disk.cap=s.disk.cap∧((W f S l0 (rollT s).1 M g l∧(rollT s).1.segs=s.segs∧(((rollT s).2=9∧(rollT s).1.disk.down=s.disk.down)∨((rollT s).2=10∧(rollT s).1.disk.down=true))) ∨
  ((rollT s).2=0∧(rollT s).1.disk.down=false∧(rollT s).1.sure=s.next∧W f S l0 (rollT s).1 (M++[(g,l)]) ⟨s.next,0,0⟩ [])):=by
 have hri:=roll_inv ho h.inv hl;have hsy:=h.sync ho;have hos:=syncT_ok ho;unfold rollT at hri ⊢;by_cases c1:64<=s.segs.length
 ·rw[if_pos c1];exact⟨rfl,.inl ⟨h,rfl,.inl ⟨rfl,rfl⟩⟩⟩
 ·rw[if_neg c1] at hri ⊢;by_cases c2:(syncT s).2=0
  ·rw[if_neg (by simp[c2])] at hri ⊢
   have hsg:(syncT s).1.segs=s.segs:=rfl;have hn:(syncT s).1.next=s.next:=rfl;obtain⟨hw,hst,hcap⟩:=hsy;have hst2:(syncT s).1.sure=s.next∧(syncT s).1.disk.down=false:=by
    rcases hst with h1|h1
    ·exact h1.2
    ·rw[h1.1] at c2;cases c2
   have hdn:s.disk.down=false:=by
    have hO:=syn_out ho.dsk.srt h.last.choose_spec.1;have hl2:=h.inv.last;have e2:(syncT s).1.disk=(chgF s.disk (synR s.disk.files (fileN g.base))).1:=by unfold syncT;rw[hl2]
    exact hO.1.up_of (by rw[<- e2];exact hst2.2)
   rw[<- hsg] at c1;rw[<- hn] at hst2 hri ⊢;generalize (syncT s).1=t at *;have hnx:=hos.next;have hvt:=hos.ver;have hlt:=rec_lt hw.inv hl;have hrt:=roll_right hw hl hnx.2 (by omega) (by omega)
   have hnone:t.disk.down=false->fm t.disk.files (fileN t.next)=none:=fun hd=>by
    cases hx:fm t.disk.files (fileN t.next) with
    | none=>rfl
    | some v =>
     rcases hw.only hd (fileN t.next) (by rw[hx];simp) with e|⟨a,ha,e⟩|⟨_,e⟩
     ·exact absurd e (n109 _ (by rw[fileN_len];decide))
     ·have:=fileN_inj (by omega) (hos.seg a ha).1 e
      have:=hlt a ha;omega
     ·exact absurd e.symm (snap_file _ _)
   have hnr:∀ n∈[fileN t.next,[110]],¬ rel f t n:=by
    intro n hx;rcases List.mem_cons.1 hx with rfl|hx
    ·rintro(e|⟨a,ha,e⟩|⟨_,e⟩)
     ·exact absurd e (n109 _ (by rw[fileN_len];decide))
     ·have:=fileN_inj (by omega) (hos.seg a ha).1 e
      have:=hlt a ha;omega
     ·exact absurd e.symm (snap_file _ _)
    ·rw[List.mem_singleton.1 hx];exact rel_110 f t
   have h110:t.disk.down=false->fm t.disk.files [110]=none:=fun hd=>by
    cases hx:fm t.disk.files [110] with
    | none=>rfl
    | some v=>exact absurd (hw.only hd [110] (by rw[hx];simp)) (rel_110 f t)
   have hO:Out t.disk (rollD t) [fileN t.next,[110]] _ _:=crt_swap_out hos.dsk.srt hrt (namedN _) (n110 _ (by rw[fileN_len];decide)) h110 hnone
   have hcap2:=hO.1.cap;by_cases c3:(rollD t).2=0
   ·rw[if_pos c3] at hri ⊢;rcases hri with⟨hx,_⟩|⟨_,hri⟩
    ·exact absurd rfl hx
    rcases hO.2.2 with⟨e,hd,hf⟩|⟨_,_,e,_⟩|⟨e,_⟩
    ·refine⟨hcap2.trans hcap,.inr ⟨rfl,hd,hst2.1,hri,?_,?_,hrt,fun p hp=>?_,⟨0,?_,by simp[rowS],by simp⟩,?_,fun _ n hx=>?_⟩⟩
     ·rcases hw.snp with h2|⟨h2,h3,h4⟩
      ·exact .inl h2
      ·exact .inr ⟨h2,by show fm (rollD t).1.files _=_;rw[hf,up_ne _ _ (n109 _ (by rw[snapN_len];decide)),up_ne _ _ (snap_file _ _)];exact h3,h4⟩
     ·show fm (rollD t).1.files _=_;rw[hf,up_at];rfl
     ·show fm (rollD t).1.files _=_;have hpm:p.1∈t.segs:=hw.mem p hp;have hne:fileN p.1.base≠fileN t.next:=fun e=>by
       have:p.1.base=t.next:=fileN_inj (hos.seg _ hpm).1 (by omega) e
       have:=hlt _ hpm;omega
      rw[hf,up_ne _ _ (n109 _ (by rw[fileN_len];decide)),up_ne _ _ hne]
      rcases List.mem_append.1 hp with hp|hp
      ·exact hw.full p hp
      ·rw[List.mem_singleton.1 hp];obtain⟨q,h1,h2,h3⟩:=hw.last;have hnn:=hw.inv.next;rw[List.take_of_length_le (by omega)] at h2
       rw[h1,show q=(rowS l).length by omega]
     ·show fm (rollD t).1.files _=_;rw[hf,up_ne _ _ (n109 _ (by rw[fileN_len];decide)),up_at];rfl
     ·show t.next<=t.sure;omega
     ·have hx2:fm (rollD t).1.files n≠none:=hx;rw[hf] at hx2;by_cases a1:n=[109]
      ·exact .inl a1
      ·rw[up_ne _ _ a1] at hx2;by_cases a2:n=fileN t.next
       ·exact .inr (.inl ⟨⟨t.next,0,0⟩,by show _∈t.segs++[_];simp,a2⟩)
       ·rw[up_ne _ _ a2] at hx2;rcases hw.only hst2.2 n hx2 with e|⟨a,ha,e⟩|e
        ·exact .inl e
        ·exact .inr (.inl ⟨a,by show a∈t.segs++[_];simp[ha],e⟩)
        ·exact .inr (.inr e)
    ·rw[e] at c3;cases c3
    ·rw[e] at c3;cases c3
   ·rw[if_neg c3];have:=hw.fail hos.dsk.srt hO c3 hnr;refine⟨hcap2.trans hcap,.inl ⟨this.1,hsg,?_⟩⟩;rcases this.2 with⟨a,_,b⟩|hh
    ·exact .inl ⟨a,b.trans hdn.symm⟩
    ·exact .inr hh
  ·rw[if_pos c2];refine⟨hsy.2.2,.inl ⟨hsy.1,rfl,?_⟩⟩;rcases hsy.2.1 with h1|h1
   ·exact absurd h1.1 c2
   ·exact .inr ⟨h1.1,h1.2.1⟩
def WR (f:Int) (S:Txt) (l0:List Pr) (s:Sto) (R:List Rec):Prop:=∃ M g l,W f S l0 s M g l∧recsM (M++[(g,l)])=R
theorem WR.next {R:List Rec} (h:WR f S l0 s R):s.next=f+R.length:=by
 obtain⟨M,g,l,h,rfl⟩:=h;have:=chain_len _ _ _ h.inv.chain;have hn:=h.inv.next;rw[recsM_app,recsM_one,List.length_append];simp only[];omega
theorem WR.sure {R:List Rec} (h:WR f S l0 s R):f<=s.sure∧s.sure<=s.next:=by
 obtain⟨M,g,l,h,rfl⟩:=h;have:=(chain_mem _ _ _ h.inv.chain).1;have:=h.lo;have:=h.inv.sure;omega
theorem WR.floor {R:List Rec} (h:WR f S l0 s R):s.floor=f:=by
 obtain⟨M,g,l,h,rfl⟩:=h;have h1:=h.head;unfold Sto.floor;cases hs:s.segs with
 | nil=>rw[hs] at h1;cases h1
 | cons a r=>rw[hs] at h1;simpa using h1
theorem WR.app {R:List Rec} (ho:okS k u s) (h:WR f S l0 s R) {seg:Int} (hseg:1<=seg) (hv:u<1000000000000) (r:Rec) :
  s.sure<=(appT s seg r).1.sure∧(appT s seg r).1.disk.cap=s.disk.cap∧(((appT s seg r).2=0∧r.at_=s.next∧whyF r=0∧s.next<1099511627776∧(appT s seg r).1.disk.down=false∧WR f S l0 (appT s seg r).1 (R++[r])) ∨
   (WR f S l0 (appT s seg r).1 R∧(((appT s seg r).2=1∧(appT s seg r).1=s∧(whyF r≠0∨r.at_≠s.next))∨((appT s seg r).2=13∧(appT s seg r).1=s∧1099511627776<=s.next)∨(appT s seg r).2=9∨((appT s seg r).2=10∧(appT s seg r).1.disk.down=true)))):=by
 have h0:=h;obtain⟨M,g,l,h,rfl⟩:=h;have hlast:=h.inv.last;unfold appT;by_cases c1:(putF r).2≠0∨r.at_≠s.next
 ·rw[if_pos c1];refine⟨Int.le_refl _,rfl,.inr ⟨h0,.inl ⟨rfl,rfl,?_⟩⟩⟩;rcases c1 with c1|c1
  ·refine .inl fun hw=>c1 ?_
   unfold putF;rw[if_pos hw]
  ·exact .inr c1
 ·rw[if_neg c1];simp only[not_or,Decidable.not_not] at c1;obtain⟨c1,ca⟩:=c1;have hr:whyF r=0:=by
   unfold putF at c1;split at c1
   ·assumption
   ·exact c1
  by_cases c2:1099511627776<=s.next
  ·rw[if_pos c2];exact⟨Int.le_refl _,rfl,.inr ⟨h0,.inr (.inl ⟨rfl,rfl,c2⟩)⟩⟩
  ·rw[if_neg c2];by_cases c3:seg<=s.last.size
   ·rw[if_pos c3];have hg:=(h.inv.file (g,l) (by simp)).size
    have hl:l≠[]:=by
     rintro rfl;rw[hlast] at c3;simp only[rowS,List.flatMap_nil,List.length_nil] at hg;omega
    have hro:=h.roll ho hl hv;have hmo:=roll_mono ho h.inv.sure.2;have hok:=rollT_ok ho;have hnx:=rollT_next s;by_cases c4:(rollT s).2=0
    ·rw[if_neg (by simp[c4])]
     rcases hro.2 with⟨_,_,⟨e,_⟩|⟨e,_⟩⟩|⟨_,hd,hs2,hw⟩
     ·rw[e] at c4;cases c4
     ·rw[e] at c4;cases c4
     ·have hcap:=hro.1;have hp:=hw.put hok r hr (by rw[hnx];exact ca)
      generalize (rollT s).1=t at *;have e0:recsM (M++[(g,l)]++[(⟨s.next,0,0⟩,[])])=recsM (M++[(g,l)]):=by rw[recsM_app,recsM_one,List.append_nil]
      refine⟨by rw[hp.1.2];exact hmo,hp.1.1.trans hcap,?_⟩
      rcases hp.2 with⟨h1,h2,_,_,h3⟩|⟨h1,h2,h3⟩
      ·refine .inr ⟨⟨_,_,_,h1,e0⟩,.inr (.inr ?_)⟩;rcases h3 with h3|h3
       ·exact .inl h3.1
       ·exact .inr h3
      ·refine .inl ⟨h1,ca,hr,by omega,h2,_,_,_,h3,?_⟩
       rw[recsM_app,recsM_one];rfl
    ·rw[if_pos c4];refine⟨hmo,hro.1,.inr ?_⟩;rcases hro.2 with⟨h1,_,h2⟩|⟨e,_⟩
     ·refine⟨⟨_,_,_,h1,rfl⟩,.inr (.inr ?_)⟩;rcases h2 with h2|h2
      ·exact .inl h2.1
      ·exact .inr h2
     ·exact absurd e c4
   ·rw[if_neg c3];have hp:=h.put ho r hr ca;refine⟨by rw[hp.1.2];exact Int.le_refl _,hp.1.1,?_⟩
    rcases hp.2 with⟨h1,h2,_,_,h3⟩|⟨h1,h2,h3⟩
    ·refine .inr ⟨⟨_,_,_,h1,rfl⟩,.inr (.inr ?_)⟩;rcases h3 with h3|h3
     ·exact .inl h3.1
     ·exact .inr h3
    ·refine .inl ⟨h1,ca,hr,by omega,h2,_,_,_,h3,?_⟩
     rw[recsM_app,recsM_one,recsM_app,recsM_one,List.append_assoc]
def srtP (l:List Pr):Prop:=l.Pairwise fun a b=>a.key<b.key
theorem stepF_c (l:List Pr) (c:UInt8) (r:List UInt8):stepF l (c::r)=l.takeWhile (fun p=>decide (p.key<(c.toNat:Int)))++(if r=[] then[] else[⟨(c.toNat:Int),r⟩])++l.filter (fun p=>decide ((c.toNat:Int)<p.key)):=by rw[stepF]
theorem step_srt {l:List Pr} (hs:srtP l) (d:List UInt8):srtP (stepF l d):=by
 cases d with
 | nil=>exact hs
 | cons c r =>
  have h1:∀ p∈l.takeWhile (fun p=>decide (p.key<(c.toNat:Int))),p.key<(c.toNat:Int):=fun p hp=>by simpa using List.all_eq_true.1 (List.all_takeWhile (p:=fun p:Pr=>decide (p.key<(c.toNat:Int))) (l:=l)) p hp
  have h2:∀ p∈l.filter (fun p=>decide ((c.toNat:Int)<p.key)),(c.toNat:Int)<p.key:=fun p hp=>by simpa using(List.mem_filter.1 hp).2
  unfold srtP;rw[stepF_c,List.append_assoc,List.pairwise_append];refine⟨hs.sublist (List.takeWhile_sublist _),?_,?_⟩
  ·split
   ·exact hs.sublist List.filter_sublist
   ·rw[List.singleton_append,List.pairwise_cons];exact⟨fun p hp=>h2 p hp,hs.sublist List.filter_sublist⟩
  ·intro a ha b hb;have:=h1 a ha;rw[List.mem_append] at hb;rcases hb with hb|hb
   ·split at hb
    ·cases hb
    ·rw[List.mem_singleton.1 hb];exact this
   ·have:=h2 b hb;omega
theorem Pr.dr (e:Pr):e.enc.drop 2=[]:=Eq.trans rfl rfl
def foldP (l:List Pr) (R:List Rec):List Pr:=R.foldl (fun l r=>stepF l r.da) l
theorem foldP_ok:∀ (R:List Rec) (l:List Pr),srtP l->okP l->(∀ r∈R,r.da.length<=64)->srtP (foldP l R)∧okP (foldP l R)∧(foldP l R).length<=l.length+R.length
 | [],l,hs,ho,_=>⟨hs,ho,Nat.le_refl _⟩
 | r::R,l,hs,ho,hr=>by
  have h:=foldP_ok R (stepF l r.da) (step_srt hs _) (step_ok ho (hr r (by simp))) (fun x hx=>hr x (by simp[hx]))
  have h2:=step_len l r.da;refine⟨h.1,h.2.1,?_⟩;have:(foldP l (r::R)).length<=(stepF l r.da).length+R.length:=h.2.2;simp only[List.length_cons];omega
theorem srt_len:∀ (l:List Pr) (a:Int),srtP l->(∀ p∈l,a<=p.key∧p.key<256)->(l.length:Int)<=max 0 (256-a)
 | [],a,_,_=>by simp;omega
 | p::r,a,hs,h=>by
  have hr:=List.pairwise_cons.1 hs;have h1:=h p (by simp)
  have:=srt_len r (p.key+1) hr.2 (fun q hq=>⟨by have:=hr.1 q hq;omega,(h q (by simp[hq])).2⟩)
  simp only[List.length_cons];omega
theorem st_len {l:List Pr} (hs:srtP l) (ho:okP l):l.length<=256:=by
 have:=srt_len l 0 hs (fun p hp=>(ho p hp).1)
 omega
theorem pickF_at (l:List Seg) (keep count:Int) (j:Nat) (hj:j<l.length) (h1:stayF l keep count j=true) (h2:∀ i,i<j->stayF l keep count i=false):pickF l keep count=j:=by
 have:(List.range l.length).find? (stayF l keep count)=some j:=by
  rw[List.find?_range_eq_some];exact⟨h1,by simpa using hj,fun i hi=>by rw[h2 i hi];rfl⟩
 unfold pickF;rw[this]
theorem parse_srt {s:List UInt8} {l:List Pr} (h:parseF s=some l):srtP l:=by
 have hr:rightF l=true:=by
  unfold parseF at h;split at h
  ·split at h
   ·cases h
   ·unfold endF at h;split at h
    ·split at h
     ·rename_i hc;cases h;exact hc.2
     ·cases h
    ·cases h
  ·cases h
 have key:∀ i,(hi:i+1<l.length)->l[i].key<l[i+1].key:=by
  intro i hi;have:=(List.all_eq_true.1 hr) (i+1) (by simpa using hi)
  simp only[atOk,List.getElem?_eq_getElem hi,Bool.and_eq_true,Bool.or_eq_true,decide_eq_true_eq] at this;have h2:=this.2.resolve_left (by omega)
  have e:keyAt l (i+1-1)=l[i].key:=by simp[keyAt,List.getElem?_eq_getElem (show i<l.length by omega)]
  rwa [e] at h2
 have mono:∀ d i,(hi:i+1+d<l.length)->l[i].key<l[i+1+d].key:=by
  intro d;induction d with
  | zero=>intro i hi;exact key i hi
  | succ d ih=>intro i hi;exact Int.lt_trans (ih i (by omega)) (key (i+1+d) hi)
 unfold srtP;rw[List.pairwise_iff_getElem];intro i j hi hj hij;have:=mono (j-i-1) i (by omega)
 simpa only[show i+1+(j-i-1)=j by omega] using this
def Sto.rcs (s:Sto) (g:Seg):List Rec:=(scanS (s.txt g) g.base).1.map (·.1)
variable {k u:Nat} {f:Int} {S:Txt} {l0:List Pr} {s:Sto} {M:List SR} {g:Seg} {l:List Rec}
theorem Inv.rcs (ho:okS k u s) (h:Inv f s M g l):∀ p∈M++[(g,l)],s.rcs p.1=p.2:=by
 intro p hp;have hf:=h.file p hp;have hpm:p.1∈s.segs:=by
  rw[h.segs];rcases List.mem_append.1 hp with hp|hp
  ·exact List.mem_append_left _ (List.mem_map_of_mem hp)
  ·rw[List.mem_singleton.1 hp];simp
 have hb:=(ho.seg _ hpm).1;have ht:s.txt p.1=rowS p.2:=by
  unfold Sto.txt;rw[read_hasD ho.dsk.srt hf.has]
 unfold Sto.rcs;rw[ht];exact(scan_row p.2 p.1.base (by simp[offN];omega) hf.why hf.num).1
theorem Inv.scans (ho:okS k u s) (h:Inv f s M g l):s.scans=M++[(g,l)]:=by
 have e:s.segs=(M++[(g,l)]).map (·.1):=by rw[h.segs];simp
 have e2:s.scans=s.segs.map fun a=>(a,s.rcs a):=rfl
 rw[e2,e,List.map_map];have:(M++[(g,l)]).map ((fun a=>(a,s.rcs a)) ∘ fun x=>x.1)=(M++[(g,l)]).map id:=by
  apply List.map_congr_left;intro p hp;show(p.1,s.rcs p.1)=p;rw[h.rcs ho p hp]
 rw[this,List.map_id]
theorem num_app {b:Int} {A B:List Rec} (h1:numB b A) (h2:numB (b+A.length) B):numB b (A++B):=by
 intro i hi;rw[List.length_append] at hi;rcases Nat.lt_or_ge i A.length with c|c
 ·rw[List.getElem_append_left c];exact h1 i c
 ·rw[List.getElem_append_right c,h2 (i-A.length) (by omega)];omega
theorem chain_num:∀ (M:List SR) (b e:Int),chainM b M e->(∀ p∈M,numB p.1.base p.2)->numB b (recsM M)
 | [],b,e,_,_=>fun i hi=>by simp[recsM] at hi
 | p::M,b,e,h,hn=>by
  simp only[chainM] at h;have e1:recsM (p::M)=p.2++recsM M:=by simp[recsM]
  rw[e1];have h1:=hn p (by simp)
  rw[h.1] at h1;exact num_app h1 (chain_num M _ e h.2.2 (fun q hq=>hn q (by simp[hq])))
theorem Inv.num (h:Inv f s M g l):numB f (recsM (M++[(g,l)])):=by
 have h1:=chain_num M f g.base h.chain (fun p hp=>(h.file p (List.mem_append_left _ hp)).num)
 rw[recsM_app,recsM_one];refine num_app h1 ?_;rw[chain_len _ _ _ h.chain];exact(h.file (g,l) (by simp)).num
theorem W.snT (ho:okS k u s) (h:W f S l0 s M g l):snapT s=S∧(parseF (snapT s)).getD []=l0:=by
 have hf:s.floor=f:=WR.floor ⟨M,g,l,h,rfl⟩;have e:snapT s=S:=by
  unfold snapT;rw[hf];rcases h.snp with⟨h1,h2,_⟩|⟨h1,h2,_⟩
  ·rw[if_pos h1,h2]
  ·rw[if_neg (by omega),fm_read ho.dsk.srt,h2]
 rw[e];refine⟨rfl,?_⟩;rcases h.snp with⟨_,h2,h3,_⟩|⟨_,_,h3,_⟩
 ·rw[h2,h3];rfl
 ·rw[h3];rfl
theorem run_fold {R:List Rec} (hd:∀ j,(hj:j<R.length)->dataT s (f+j)=R[j].da):∀ (n j:Nat) (q:List Pr),j+n<=R.length->runF s n (f+j) q=foldP q ((R.drop j).take n)
 | 0,j,q,_=>by simp[runF,foldP]
 | n+1,j,q,h=>by
  have hj:j<R.length:=by omega
  rw[runF,hd j hj,List.drop_eq_getElem_cons hj,List.take_succ_cons];have ih:=run_fold hd n (j+1) (stepF q R[j].da) (by omega)
  rw[Int.natCast_add,Int.natCast_one,<- Int.add_assoc] at ih;rw[ih];rfl
theorem W.data (ho:okS k u s) (h:W f S l0 s M g l) (j:Nat) (hj:j<(recsM (M++[(g,l)])).length):dataT s (f+j)=(recsM (M++[(g,l)]))[j].da:=by
 have hn:s.next=f+(recsM (M++[(g,l)])).length:=WR.next ⟨M,g,l,h,rfl⟩;have hf0:0<=f:=by have:=WR.floor ⟨M,g,l,h,rfl⟩;rw[<- this];exact(floor_ok ho).1
 unfold dataT;rw[if_neg (by omega),h.inv.scans ho,find_num h.inv.num j hj]
def stF (l0:List Pr) (f:Int) (R:List Rec) (off:Int):List Pr:=foldP l0 (R.take (off-f).toNat)
theorem W.stT (ho:okS k u s) (h:W f S l0 s M g l) (off:Int) (h1:f<=off∧off<=s.next):stateT s off=stF l0 f (recsM (M++[(g,l)])) off:=by
 have hn:s.next=f+(recsM (M++[(g,l)])).length:=WR.next ⟨M,g,l,h,rfl⟩;unfold stateT stF;rw[(h.snT ho).2,WR.floor ⟨M,g,l,h,rfl⟩];have:=run_fold (h.data ho) (off-f).toNat 0 l0 (by omega)
 simpa using this
def okV (l:List Pr):Prop:=∀ p∈l,(0<=p.key∧p.key<256)∧(1<=p.val.length∧p.val.length<=63)
theorem okV.okP {l:List Pr} (h:okV l):okP l:=fun p hp=>⟨(h p hp).1,by have:=(h p hp).2;omega⟩
theorem step_okV {l:List Pr} (h:okV l) {d:List UInt8} (hd:d.length<=64):okV (stepF l d):=by
 cases d with
 | nil=>exact h
 | cons c r =>
  intro p hp;simp only[stepF,List.mem_append] at hp;rcases hp with(hp|hp)|hp
  ·exact h p ((List.takeWhile_sublist _).subset hp)
  ·split at hp
   ·cases hp
   ·rename_i hr;rw[List.mem_singleton] at hp;subst hp;have:=UInt8.toNat_lt c;have:=List.length_pos_iff.2 hr;simp at hd;exact⟨⟨by simp only[];omega,by simp only[];omega⟩,by simp only[];omega⟩
  ·exact h p (List.mem_filter.1 hp).1
theorem foldP_okV:∀ (R:List Rec) (l:List Pr),okV l->(∀ r∈R,r.da.length<=64)->okV (foldP l R)
 | [],l,h,_=>h
 | r::R,l,h,hr=>foldP_okV R _ (step_okV h (hr r (by simp))) (fun x hx=>hr x (by simp[hx]))
theorem right_ok {l:List Pr} (hs:srtP l) (h:okV l):rightF l=true:=by
 unfold rightF;rw[List.all_eq_true];intro i hi;have hi:i<l.length:=by simpa using hi
 simp only[atOk,List.getElem?_eq_getElem hi,prOk,Bool.and_eq_true,Bool.or_eq_true,decide_eq_true_eq];refine⟨(h _ (List.getElem_mem hi)).2,?_⟩;by_cases c:i=0
 ·exact .inl c
 ·refine .inr ?_;have e:keyAt l (i-1)=l[i-1].key:=by simp[keyAt,List.getElem?_eq_getElem (show i-1<l.length by omega)]
  rw[e];exact(List.pairwise_iff_getElem.1 hs) (i-1) i (by omega) hi (by omega)
theorem right_okV {l:List Pr} (hr:rightF l=true) (ho:okP l):okV l:=by
 intro p hp;obtain⟨i,hi,rfl⟩:=List.getElem_of_mem hp;have:=(List.all_eq_true.1 hr) i (by simpa using hi)
 simp only[atOk,List.getElem?_eq_getElem hi,prOk,Bool.and_eq_true,decide_eq_true_eq] at this;exact⟨(ho _ hp).1,this.1⟩
theorem pair_bytes (pre rest:Txt) (p:Pr) (h:(0<=p.key∧p.key<256)∧(1<=p.val.length∧p.val.length<=63)):pairF (pre++(prB p++rest)) pre.length=some (p,(pre++prB p).length):=by
 obtain⟨key,v⟩:=p;simp only at h;have e0:pre++(prB ⟨key,v⟩++rest)=(pre++[UInt8.ofNat key.toNat])++(enc128 v.length++(v++rest)):=by simp[prB]
 have e1:(pre++(prB ⟨key,v⟩++rest)).drop (pre.length+1)=enc128 v.length++(v++rest):=by
  rw[e0];exact List.drop_left' (by simp)
 have hr:=rdF_of0 v.length (v++rest) (by omega)
 have hk:(enc128 v.length).length=nd v.length:=rfl;have hl:(pre++(prB ⟨key,v⟩++rest)).length=pre.length+1+nd v.length+v.length+rest.length:=by rw[e0];simp[hk];omega
 have ha:(pre++(prB ⟨key,v⟩++rest))[pre.length]?=some (UInt8.ofNat key.toNat):=by simp[prB]
 have hv:((pre++(prB ⟨key,v⟩++rest)).take (pre.length+1+nd v.length+v.length)).drop (pre.length+1+nd v.length)=v:=by
  have e2:pre++(prB ⟨key,v⟩++rest)=((pre++[UInt8.ofNat key.toNat])++enc128 v.length)++(v++rest):=by simp[prB]
  have hl2:((pre++[UInt8.ofNat key.toNat])++enc128 v.length).length=pre.length+1+nd v.length:=by simp[hk];omega
  rw[e2,<- hl2,List.take_length_add_append,List.drop_left,List.take_left]
 have hkey:((UInt8.ofNat key.toNat).toNat:Int)=key:=by simp;omega
 unfold pairF;rw[e1,hr];simp only[];rw[if_neg (by omega),hv,ha]
 simp only[Option.getD_some,hkey];congr 2
 simp[prB,hk];omega
theorem pars_bytes:∀ (l:List Pr) (pre:Txt) (out:List Pr),okV l->parsF (pre++l.flatMap prB) l.length pre.length out=some (out++l,(pre++l.flatMap prB).length)
 | [],pre,out,_=>by simp[parsF]
 | p::l,pre,out,h=>by
  have hp:=pair_bytes pre (l.flatMap prB) p (h p (by simp))
  rw[List.flatMap_cons,List.length_cons,parsF,hp];simp only[];have ih:=pars_bytes l (pre++prB p) (out++[p]) (fun q hq=>h q (by simp[hq]))
  rw[List.append_assoc] at ih;rw[ih];simp
theorem parse_bytes {l:List Pr} (hs:srtP l) (h:okV l):parseF (bytesF l)=some l:=by
 have hl:=st_len hs h.okP;have hr:=rdF_of0 l.length (l.flatMap prB) (by omega)
 have hp:=pars_bytes l (enc128 l.length) [] h;have hk:(enc128 l.length).length=nd l.length:=rfl;unfold parseF;have e:bytesF l=enc128 l.length++l.flatMap prB:=rfl;rw[e,hr];simp only[];rw[if_neg (by omega),<- hk,hp]
 unfold endF;simp[right_ok hs h]
theorem parse_okV {s:List UInt8} {l:List Pr} (h:parseF s=some l):okV l:=by
 have hr:rightF l=true:=by
  unfold parseF at h;split at h
  ·split at h
   ·cases h
   ·unfold endF at h;split at h
    ·split at h
     ·rename_i hc;cases h;exact hc.2
     ·cases h
    ·cases h
  ·cases h
 exact right_okV hr (parse_ok h).1
end Go.Proofs.YtghfhomfppbooaaGreat
